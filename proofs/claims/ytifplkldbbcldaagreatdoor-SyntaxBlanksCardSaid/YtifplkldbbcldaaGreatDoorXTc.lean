/- Equality of trees, the reference's. Equality of expressions, the reference's. Equality of programs, the reference's. Conditions: none. -/
import Derived.Test.YtifplkldbbcldaaGreatDoorXWe2
set_option linter.unusedSimpArgs false
set_option linter.unusedVariables false
set_option maxRecDepth 4000
set_option maxHeartbeats 8000000
open Classical renaming propDecidable→V8
open Option.some renaming inj→GN
open List renaming take_of_length_le→Ar,length_map→AI,map_cons→AE,map_nil→AH,mem_of_getElem?→Ah,cons_append→AU,nil_append→A6
open Nat renaming le_refl→A7
namespace Go.Ab
open Go.Proofs
noncomputable def eqB {α:Type} (a b:α):Bool:=@decide (a=b) (V8 _)
theorem lA {α:Type} {a b:α} (h:a=b):eqB a b=true:=@decide_eq_true _ (V8 _) h
theorem D8 {α:Type} {a b:α} (h:a≠b):eqB a b=false:=@decide_eq_false _ (V8 _) h
theorem PK {α:Type} (a:α):eqB a a=true:=lA rfl
theorem Qb {α:Type} {l m:List α} (h:l.length≠m.length):l≠m:=fun e=>h (by rw [e])
theorem Uf {α:Type} {l m:List α} {i:Nat} {x y:α} (hx:l[i]?=some x) (hy:m[i]?=some y) (h:x≠y):l≠m:=fun e=>h (by rw [e,hy] at hx;exact (GN hx).symm)
theorem Hy {α:Type} {l m:List α} {i:Nat} {x:α} (h:l.take i=m.take i) (hx:l[i]?=some x) (hy:m[i]?=some x):l.take (i+1)=m.take (i+1):=by rw [Jg hx,Jg hy,h]
theorem K7 {α:Type} {l m:List α} {i:Nat} (h:l.take i=m.take i) (hl:l.length=m.length) (hi:¬i < l.length):l=m:=by
 rwa [Ar (by omega),Ar (by omega)] at h
theorem tW {a b:Nat} (h:a≠b):((a:Int)==(b:Int))=false:=EF (by omega)
theorem Qa {a b:Nat} (h:a≠b):((a:Int) != (b:Int))=true:=by rw [bne,tW h];rfl
theorem WI {a b:Int} (h:a≠b):(a != b)=true:=by rw [bne,EF h];rfl
theorem U7 {a b:List UInt8} (h:¬a=b):(a==b)=false:=by simpa using h
theorem uO {a b:Str} (h:a≠b):(a==b)=false:=by simpa using h
theorem Lb (l m:List Str) (σ:AN):AT Tryz.prog 36 [.d (.sl (l.map FB)),.d (.sl (m.map FB))] σ (fun v σ'=>v= .d (.bool (eqB l m))∧σ'=σ):=by
 refine Vz (by simp) ?_
 rw [BL]
 refine Run.slot 0 (fun hb0=>?_)
 have hb0:l.length≤9223372036854775807:=by simpa [Ig,AV.FN] using hb0
 by_cases hl:l.length=m.length
 · (repeat' (first|refine Run.ct rfl ?_|((first|refine Run.reg mixed ?_|refine Run.AM ?_|(refine AQ rfl (fun h=>?_) (fun h=>?_)<;>try (cases h;done)))<;>try simp -implicitDefEqProofs only [AI,hl,beq_self_eq_true,bne_self_eq_false,BV,go_sem])|(refine ⟨fun h=>?_,fun h=>?_⟩<;>first|(cases h;done)|try simp only [h])|fail))
   refine Run.Co ?_
   refine Run.Cp ((fun (a0:AV) (a1:AV)=>fun (i:Nat)=>put 0 a0 (put 1 a1 (put 5 (.d (.int .i64 i)) U))) _ _) (fun _=>E) (fun _=>σ) (fun i=>i≤l.length∧l.take i=m.take i) (fun i=>l.length - i) ?_ 0 ⟨by simp,by simp⟩
   rintro i ⟨hi,ht⟩ ih
   by_cases hlt:i < l.length
   · obtain ⟨x,hx⟩:=DN hlt
     obtain ⟨y,hy⟩:=DN (show i < m.length by omega)
     have he:=CW (enc:=FB) hx
     have he':=CW (enc:=FB) hy
     simp only [FB] at he he'
     have hw1:IntKind.i64.wrap ((i:Int)+1)=((i+1:Nat):Int):=by rw [BJ (by omega) (by omega)];omega
     by_cases hxy:x=y
     · subst hxy
       (repeat' (first|refine Run.ct rfl ?_|((first|refine Run.reg mixed ?_|refine Run.AM ?_|(refine AQ rfl (fun h=>?_) (fun h=>?_)<;>try (cases h;done)))<;>try simp -implicitDefEqProofs only [C9 hlt,he,he',hw1,beq_self_eq_true,bne_self_eq_false,BV,AI,go_sem])|(refine ⟨fun h=>?_,fun h=>?_⟩<;>first|(cases h;done)|try simp only [h])|fail))
       exact ih (i+1) ⟨by omega,Hy ht hx hy⟩ (by omega)
     · rw [D8 (Uf hx hy hxy)]
       (repeat' (first|refine Run.ct rfl ?_|((first|refine Run.reg mixed ?_|refine Run.AM ?_|refine Run.Ag I0 (AN.le_refl _) ?_|(refine AQ rfl (fun h=>?_) (fun h=>?_)<;>try (cases h;done)))<;>try simp -implicitDefEqProofs only [C9 hlt,he,he',uO hxy,BV,AI,go_sem])|(refine ⟨fun h=>?_,fun h=>?_⟩<;>first|(cases h;done)|try simp only [h])|fail))
   · rw [lA (K7 ht hl hlt)]
     (repeat' (first|refine Run.ct rfl ?_|((first|refine Run.reg mixed ?_|refine Run.AM ?_|refine Run.Ag I0 (AN.le_refl _) ?_|(refine AQ rfl (fun h=>?_) (fun h=>?_)<;>try (cases h;done)))<;>try simp -implicitDefEqProofs only [Ib hlt,AI,go_sem])|(refine ⟨fun h=>?_,fun h=>?_⟩<;>first|(cases h;done)|try simp only [h])|fail))
 · rw [D8 (Qb hl)]
   (repeat' (first|refine Run.ct rfl ?_|((first|refine Run.reg mixed ?_|refine Run.AM ?_|refine Run.Ag I0 (AN.le_refl _) ?_|(refine AQ rfl (fun h=>?_) (fun h=>?_)<;>try (cases h;done)))<;>try simp -implicitDefEqProofs only [AI,Qa hl,go_sem])|(refine ⟨fun h=>?_,fun h=>?_⟩<;>first|(cases h;done)|try simp only [h])|fail))
theorem Ue:∀(N:Nat) (t u:TE),t.size≤N→∀σ,AT Tryz.prog 37 [teA t,teA u] σ (fun v σ'=>v= .d (.bool (eqB t u))∧σ'=σ)
 |0,t,u,h,_=>by have:=TE.size_pos t;omega
 |N+1,.mk k n l,.mk k' n' m,h,σ=>by
  rw [TE.size] at h
  have ihN:=fun x hx u=>Ue N x u (by have:=TE.Sf (l:=l) (t:=x) hx;omega) σ
  refine X0 (by simp) ?_
  rw [BL]
  simp only [teA,TE.A3,AE,AH]
  by_cases hk:k=k'
  · subst hk
    by_cases hn:n=n'
    · subst hn
      by_cases hl:l.length=m.length
      · (repeat' (first|refine Run.ct rfl ?_|((first|refine Run.reg mixed ?_|refine Run.AM ?_|(refine AQ rfl (fun h=>?_) (fun h=>?_)<;>try (cases h;done)))<;>try simp -implicitDefEqProofs only [AI,hl,beq_self_eq_true,bne_self_eq_false,BV,go_sem])|(refine ⟨fun h=>?_,fun h=>?_⟩<;>first|(cases h;done)|try simp only [h])|fail))
        refine Run.cell 2 2 rfl rfl (fun hb0=>?_)
        have hb0:l.length≤9223372036854775807:=by simpa [AV.FN] using hb0
        refine Run.Co ?_
        refine Run.Cp ((fun (a2:AV) (a3:AV)=>fun (i:Nat)=>put 2 a2 (put 3 a3 (put 5 (.d (.int .i64 i)) U))) _ _) (fun _=>Be 2 [.d (.int .i64 k),.d (.str n),.d (.sl (l.map TE.enc))] (Be 3 [.d (.int .i64 k),.d (.str n),.d (.sl (m.map TE.enc))] E)) (fun _=>σ) (fun i=>i≤l.length∧l.take i=m.take i) (fun i=>l.length - i) ?_ 0 ⟨by simp,by simp⟩
        rintro i ⟨hi,ht⟩ ih
        by_cases hlt:i < l.length
        · obtain ⟨x,hx⟩:=DN hlt
          obtain ⟨y,hy⟩:=DN (show i < m.length by omega)
          have he:=CW (enc:=TE.enc) hx
          have he':=CW (enc:=TE.enc) hy
          have hw1:IntKind.i64.wrap ((i:Int)+1)=((i+1:Nat):Int):=by rw [BJ (by omega) (by omega)];omega
          have hc:=ihN x (Ah hx) y
          by_cases hxy:x=y
          · subst hxy
            rw [PK] at hc
            obtain ⟨k0,n0,l0⟩:=x
            simp only [teA,TE.A3,AE,AH] at he he' hc
            (repeat' (first|refine Run.ct rfl ?_|((first|refine Run.reg mixed ?_|refine Run.AM ?_|refine AG.det (hc) ?_|(refine AQ rfl (fun h=>?_) (fun h=>?_)<;>try (cases h;done)))<;>try simp -implicitDefEqProofs only [C9 hlt,he,he',hw1,AI,go_sem])|(refine ⟨fun h=>?_,fun h=>?_⟩<;>first|(cases h;done)|try simp only [h])|fail))
            exact ih (i+1) ⟨by omega,Hy ht hx hy⟩ (by omega)
          · rw [D8 (show TE.mk k n l≠TE.mk k n m from fun e=>Uf hx hy hxy (by injection e))]
            rw [D8 hxy] at hc
            obtain ⟨k0,n0,l0⟩:=x
            obtain ⟨k1,n1,l1⟩:=y
            simp only [teA,TE.A3,AE,AH] at he he' hc
            (repeat' (first|refine Run.ct rfl ?_|((first|refine Run.reg mixed ?_|refine Run.AM ?_|refine Run.Ag Fx (AN.le_refl _) ?_|refine AG.det (hc) ?_|(refine AQ rfl (fun h=>?_) (fun h=>?_)<;>try (cases h;done)))<;>try simp -implicitDefEqProofs only [C9 hlt,he,he',AI,go_sem])|(refine ⟨fun h=>?_,fun h=>?_⟩<;>first|(cases h;done)|try simp only [h])|fail))
        · rw [lA (show TE.mk k n l=TE.mk k n m by rw [K7 ht hl hlt])]
          (repeat' (first|refine Run.ct rfl ?_|((first|refine Run.reg mixed ?_|refine Run.AM ?_|refine Run.Ag Fx (AN.le_refl _) ?_|(refine AQ rfl (fun h=>?_) (fun h=>?_)<;>try (cases h;done)))<;>try simp -implicitDefEqProofs only [Ib hlt,AI,go_sem])|(refine ⟨fun h=>?_,fun h=>?_⟩<;>first|(cases h;done)|try simp only [h])|fail))
      · rw [D8 (show TE.mk k n l≠TE.mk k n m from fun e=>Qb hl (by injection e))]
        (repeat' (first|refine Run.ct rfl ?_|((first|refine Run.reg mixed ?_|refine Run.AM ?_|refine Run.Ag Fx (AN.le_refl _) ?_|(refine AQ rfl (fun h=>?_) (fun h=>?_)<;>try (cases h;done)))<;>try simp -implicitDefEqProofs only [AI,Qa hl,beq_self_eq_true,bne_self_eq_false,BV,go_sem])|(refine ⟨fun h=>?_,fun h=>?_⟩<;>first|(cases h;done)|try simp only [h])|fail))
    · rw [D8 (show TE.mk k n l≠TE.mk k n' m from fun e=>hn (by injection e))]
      (repeat' (first|refine Run.ct rfl ?_|((first|refine Run.reg mixed ?_|refine Run.AM ?_|refine Run.Ag Fx (AN.le_refl _) ?_|(refine AQ rfl (fun h=>?_) (fun h=>?_)<;>try (cases h;done)))<;>try simp -implicitDefEqProofs only [U7 hn,BV,beq_self_eq_true,bne_self_eq_false,BV,go_sem])|(refine ⟨fun h=>?_,fun h=>?_⟩<;>first|(cases h;done)|try simp only [h])|fail))
  · rw [D8 (show TE.mk k n l≠TE.mk k' n' m from fun e=>hk (by injection e))]
    (repeat' (first|refine Run.ct rfl ?_|((first|refine Run.reg mixed ?_|refine Run.AM ?_|refine Run.Ag Fx (AN.le_refl _) ?_|(refine AQ rfl (fun h=>?_) (fun h=>?_)<;>try (cases h;done)))<;>try simp -implicitDefEqProofs only [WI hk,go_sem])|(refine ⟨fun h=>?_,fun h=>?_⟩<;>first|(cases h;done)|try simp only [h])|fail))
end Go.Ab
namespace Go.Ab
open Go.Proofs
set_option maxHeartbeats 8000000 in
theorem QC:∀(N:Nat) (t u:Ex),t.size≤N→∀σ,AT Tryz.prog 38 [exA t,exA u] σ (fun v σ'=>v= .d (.bool (eqB t u))∧σ'=σ)
 |0,t,u,h,_=>by have:=Ex.size_pos t;omega
 |N+1,.mk o n u ns ks al,.mk o' n' u' ns' ks' al',h,σ=>by
  rw [Ex.size] at h
  have ihN:=fun x hx u=>QC N x u (by have:=Ex.Sf (l:=ks) (t:=x) hx;omega) σ
  have ihA:∀c vs b,Al.mk c vs b∈al→∀u,AT Tryz.prog 38 [exA b,exA u] σ (fun v σ'=>v= .d (.bool (eqB b u))∧σ'=σ):=fun c vs b hx u=>QC N b u (by have:=Al.Sf (l:=al) hx;rw [Al.size] at this;omega) σ
  have hsn:=Lb ns ns' σ
  refine XZ (by simp) ?_
  rw [BL]
  simp only [exA,Ex.A3,AE,AH]
  by_cases ho:o=o'
  rotate_left
  · rw [D8 (fun e=>ho (by injection e))]
    (repeat' (first|refine Run.ct rfl ?_|((first|refine Run.reg mixed ?_|refine Run.AM ?_|refine Run.Ag CM (AN.le_refl _) ?_|(refine AQ rfl (fun h=>?_) (fun h=>?_)<;>try (cases h;done)))<;>try simp -implicitDefEqProofs only [WI ho,go_sem])|(refine ⟨fun h=>?_,fun h=>?_⟩<;>first|(cases h;done)|try simp only [h])|fail))
  subst ho
  by_cases hn:n=n'
  rotate_left
  · rw [D8 (fun e=>hn (by injection e))]
    (repeat' (first|refine Run.ct rfl ?_|((first|refine Run.reg mixed ?_|refine Run.AM ?_|refine Run.Ag CM (AN.le_refl _) ?_|(refine AQ rfl (fun h=>?_) (fun h=>?_)<;>try (cases h;done)))<;>try simp -implicitDefEqProofs only [U7 hn,BV,bne_self_eq_false,go_sem])|(refine ⟨fun h=>?_,fun h=>?_⟩<;>first|(cases h;done)|try simp only [h])|fail))
  subst hn
  by_cases hu:u=u'
  rotate_left
  · rw [D8 (fun e=>hu (by injection e))]
    (repeat' (first|refine Run.ct rfl ?_|((first|refine Run.reg mixed ?_|refine Run.AM ?_|refine Run.Ag CM (AN.le_refl _) ?_|(refine AQ rfl (fun h=>?_) (fun h=>?_)<;>try (cases h;done)))<;>try simp -implicitDefEqProofs only [WI hu,beq_self_eq_true,BV,bne_self_eq_false,go_sem])|(refine ⟨fun h=>?_,fun h=>?_⟩<;>first|(cases h;done)|try simp only [h])|fail))
  subst hu
  by_cases hs:ns=ns'
  rotate_left
  · rw [D8 hs] at hsn
    rw [D8 (fun e=>hs (by injection e))]
    (repeat' (first|refine Run.ct rfl ?_|((first|refine Run.reg mixed ?_|refine Run.AM ?_|refine Run.Ag CM (AN.le_refl _) ?_|refine AG.det (hsn) ?_|(refine AQ rfl (fun h=>?_) (fun h=>?_)<;>try (cases h;done)))<;>try simp -implicitDefEqProofs only [beq_self_eq_true,BV,bne_self_eq_false,go_sem])|(refine ⟨fun h=>?_,fun h=>?_⟩<;>first|(cases h;done)|try simp only [h])|fail))
  subst hs
  rw [PK] at hsn
  by_cases hk:ks.length=ks'.length
  rotate_left
  · rw [D8 (fun e=>Qb hk (by injection e))]
    (repeat' (first|refine Run.ct rfl ?_|((first|refine Run.reg mixed ?_|refine Run.AM ?_|refine Run.Ag CM (AN.le_refl _) ?_|refine AG.det (hsn) ?_|(refine AQ rfl (fun h=>?_) (fun h=>?_)<;>try (cases h;done)))<;>try simp -implicitDefEqProofs only [beq_self_eq_true,BV,bne_self_eq_false,Qa hk,AI,go_sem])|(refine ⟨fun h=>?_,fun h=>?_⟩<;>first|(cases h;done)|try simp only [h])|fail))
  by_cases ha:al.length=al'.length
  rotate_left
  · rw [D8 (fun e=>Qb ha (by injection e))]
    (repeat' (first|refine Run.ct rfl ?_|((first|refine Run.reg mixed ?_|refine Run.AM ?_|refine Run.Ag CM (AN.le_refl _) ?_|refine AG.det (hsn) ?_|(refine AQ rfl (fun h=>?_) (fun h=>?_)<;>try (cases h;done)))<;>try simp -implicitDefEqProofs only [beq_self_eq_true,BV,bne_self_eq_false,Qa ha,AI,hk,go_sem])|(refine ⟨fun h=>?_,fun h=>?_⟩<;>first|(cases h;done)|try simp only [h])|fail))
  (repeat' (first|refine Run.ct rfl ?_|((first|refine Run.reg mixed ?_|refine Run.AM ?_|refine AG.det (hsn) ?_|(refine AQ rfl (fun h=>?_) (fun h=>?_)<;>try (cases h;done)))<;>try simp -implicitDefEqProofs only [beq_self_eq_true,BV,bne_self_eq_false,AI,hk,ha,go_sem])|(refine ⟨fun h=>?_,fun h=>?_⟩<;>first|(cases h;done)|try simp only [h])|fail))
  refine Run.cell 2 4 rfl rfl (fun hb0=>?_)
  refine Run.cell 2 5 rfl rfl (fun hb1=>?_)
  have hb0:ks.length≤9223372036854775807:=by simpa [AV.FN] using hb0
  have hb1:al.length≤9223372036854775807:=by simpa [AV.FN] using hb1
  refine Run.Co ?_
  refine Run.Cp ((fun (a2:AV) (a3:AV)=>fun (i:Nat)=>put 2 a2 (put 3 a3 (put 5 (.d (.int .i64 i)) U))) _ _) (fun _=>Be 2 [.d (.int .i64 o),.d (.str n),.d (.int .i64 u),.d (.sl (ns.map FB)),.d (.sl (ks.map Ex.enc)),.d (.sl (al.map Al.enc))] (Be 3 [.d (.int .i64 o),.d (.str n),.d (.int .i64 u),.d (.sl (ns.map FB)),.d (.sl (ks'.map Ex.enc)),.d (.sl (al'.map Al.enc))] E)) (fun _=>σ) (fun i=>i≤ks.length∧ks.take i=ks'.take i) (fun i=>ks.length - i) ?_ 0 ⟨by simp,by simp⟩
  rintro i ⟨hi,ht⟩ ih
  by_cases hlt:i < ks.length
  · obtain ⟨x,hx⟩:=DN hlt
    obtain ⟨y,hy⟩:=DN (show i < ks'.length by omega)
    have he:=CW (enc:=Ex.enc) hx
    have he':=CW (enc:=Ex.enc) hy
    have hw1:IntKind.i64.wrap ((i:Int)+1)=((i+1:Nat):Int):=by rw [BJ (by omega) (by omega)];omega
    have hc:=ihN x (Ah hx) y
    by_cases hxy:x=y
    · subst hxy
      rw [PK] at hc
      obtain ⟨o0,n0,u0,ns0,ks0,al0⟩:=x
      simp only [exA,Ex.A3,AE,AH] at he he' hc
      (repeat' (first|refine Run.ct rfl ?_|((first|refine Run.reg mixed ?_|refine Run.AM ?_|refine AG.det (hc) ?_|(refine AQ rfl (fun h=>?_) (fun h=>?_)<;>try (cases h;done)))<;>try simp -implicitDefEqProofs only [C9 hlt,he,he',hw1,AI,go_sem])|(refine ⟨fun h=>?_,fun h=>?_⟩<;>first|(cases h;done)|try simp only [h])|fail))
      exact ih (i+1) ⟨by omega,Hy ht hx hy⟩ (by omega)
    · rw [D8 (fun e=>Uf hx hy hxy (by injection e))]
      rw [D8 hxy] at hc
      obtain ⟨o0,n0,u0,ns0,ks0,al0⟩:=x
      obtain ⟨o1,n1,u1,ns1,ks1,al1⟩:=y
      simp only [exA,Ex.A3,AE,AH] at he he' hc
      (repeat' (first|refine Run.ct rfl ?_|((first|refine Run.reg mixed ?_|refine Run.AM ?_|refine Run.Ag CM (AN.le_refl _) ?_|refine AG.det (hc) ?_|(refine AQ rfl (fun h=>?_) (fun h=>?_)<;>try (cases h;done)))<;>try simp -implicitDefEqProofs only [C9 hlt,he,he',AI,go_sem])|(refine ⟨fun h=>?_,fun h=>?_⟩<;>first|(cases h;done)|try simp only [h])|fail))
  have hke:=K7 ht hk hlt
  subst hke
  (repeat' (first|refine Run.ct rfl ?_|((first|refine Run.reg mixed ?_|refine Run.AM ?_|(refine AQ rfl (fun h=>?_) (fun h=>?_)<;>try (cases h;done)))<;>try simp -implicitDefEqProofs only [Ib hlt,AI,go_sem])|(refine ⟨fun h=>?_,fun h=>?_⟩<;>first|(cases h;done)|try simp only [h])|fail))
  refine Run.Co ?_
  refine Run.Cp ((fun (a2:AV) (a3:AV)=>fun (i:Nat)=>put 2 a2 (put 3 a3 (put 6 (.d (.int .i64 i)) U))) _ _) (fun _=>Be 2 [.d (.int .i64 o),.d (.str n),.d (.int .i64 u),.d (.sl (ns.map FB)),.d (.sl (ks.map Ex.enc)),.d (.sl (al.map Al.enc))] (Be 3 [.d (.int .i64 o),.d (.str n),.d (.int .i64 u),.d (.sl (ns.map FB)),.d (.sl (ks.map Ex.enc)),.d (.sl (al'.map Al.enc))] E)) (fun _=>σ) (fun i=>i≤al.length∧al.take i=al'.take i) (fun i=>al.length - i) ?_ 0 ⟨by simp,by simp⟩
  rintro q ⟨hq,htq⟩ ihq
  by_cases hltq:q < al.length
  · obtain ⟨x,hx⟩:=DN hltq
    obtain ⟨y,hy⟩:=DN (show q < al'.length by omega)
    have he:=CW (enc:=Al.enc) hx
    have he':=CW (enc:=Al.enc) hy
    have hw1:IntKind.i64.wrap ((q:Int)+1)=((q+1:Nat):Int):=by rw [BJ (by omega) (by omega)];omega
    obtain ⟨c,vs,b⟩:=x
    obtain ⟨c',vs',b'⟩:=y
    have hc:=ihA c vs b (Ah hx) b'
    have hv:=Lb vs vs' σ
    have hne:¬Al.mk c vs b= .mk c' vs' b'→Ex.mk o n u ns ks al≠.mk o n u ns ks al':=fun h e=>Uf hx hy h (by injection e)
    by_cases hcc:c=c'
    rotate_left
    · rw [D8 (hne fun e=>hcc (by injection e))]
      obtain ⟨o0,n0,u0,ns0,ks0,al0⟩:=b
      obtain ⟨o1,n1,u1,ns1,ks1,al1⟩:=b'
      simp only [Al.A3,Ex.A3] at he he'
      (repeat' (first|refine Run.ct rfl ?_|((first|refine Run.reg mixed ?_|refine Run.AM ?_|refine Run.Ag CM (AN.le_refl _) ?_|(refine AQ rfl (fun h=>?_) (fun h=>?_)<;>try (cases h;done)))<;>try simp -implicitDefEqProofs only [C9 hltq,he,he',AI,BV,U7 hcc,go_sem])|(refine ⟨fun h=>?_,fun h=>?_⟩<;>first|(cases h;done)|try simp only [h])|fail))
    subst hcc
    by_cases hvv:vs=vs'
    rotate_left
    · rw [D8 (hne fun e=>hvv (by injection e))]
      rw [D8 hvv] at hv
      obtain ⟨o0,n0,u0,ns0,ks0,al0⟩:=b
      obtain ⟨o1,n1,u1,ns1,ks1,al1⟩:=b'
      simp only [Al.A3,Ex.A3] at he he'
      (repeat' (first|refine Run.ct rfl ?_|((first|refine Run.reg mixed ?_|refine Run.AM ?_|refine Run.Ag CM (AN.le_refl _) ?_|refine AG.det (hv) ?_|(refine AQ rfl (fun h=>?_) (fun h=>?_)<;>try (cases h;done)))<;>try simp -implicitDefEqProofs only [C9 hltq,he,he',AI,BV,beq_self_eq_true,go_sem])|(refine ⟨fun h=>?_,fun h=>?_⟩<;>first|(cases h;done)|try simp only [h])|fail))
    subst hvv
    rw [PK] at hv
    by_cases hxy:b=b'
    · subst hxy
      rw [PK] at hc
      obtain ⟨o0,n0,u0,ns0,ks0,al0⟩:=b
      simp only [exA,Al.A3,Ex.A3,AE,AH] at he he' hc
      (repeat' (first|refine Run.ct rfl ?_|((first|refine Run.reg mixed ?_|refine Run.AM ?_|refine AG.det (hv) ?_|refine AG.det (hc) ?_|(refine AQ rfl (fun h=>?_) (fun h=>?_)<;>try (cases h;done)))<;>try simp -implicitDefEqProofs only [C9 hltq,he,he',hw1,AI,BV,beq_self_eq_true,go_sem])|(refine ⟨fun h=>?_,fun h=>?_⟩<;>first|(cases h;done)|try simp only [h])|fail))
      exact ihq (q+1) ⟨by omega,Hy htq hx hy⟩ (by omega)
    · rw [D8 (hne fun e=>hxy (by injection e))]
      rw [D8 hxy] at hc
      obtain ⟨o0,n0,u0,ns0,ks0,al0⟩:=b
      obtain ⟨o1,n1,u1,ns1,ks1,al1⟩:=b'
      simp only [exA,Al.A3,Ex.A3,AE,AH] at he he' hc
      (repeat' (first|refine Run.ct rfl ?_|((first|refine Run.reg mixed ?_|refine Run.AM ?_|refine Run.Ag CM (AN.le_refl _) ?_|refine AG.det (hv) ?_|refine AG.det (hc) ?_|(refine AQ rfl (fun h=>?_) (fun h=>?_)<;>try (cases h;done)))<;>try simp -implicitDefEqProofs only [C9 hltq,he,he',AI,BV,beq_self_eq_true,go_sem])|(refine ⟨fun h=>?_,fun h=>?_⟩<;>first|(cases h;done)|try simp only [h])|fail))
  · have hae:=K7 htq ha hltq
    subst hae
    rw [PK]
    (repeat' (first|refine Run.ct rfl ?_|((first|refine Run.reg mixed ?_|refine Run.AM ?_|refine Run.Ag CM (AN.le_refl _) ?_|(refine AQ rfl (fun h=>?_) (fun h=>?_)<;>try (cases h;done)))<;>try simp -implicitDefEqProofs only [Ib hltq,AI,go_sem])|(refine ⟨fun h=>?_,fun h=>?_⟩<;>first|(cases h;done)|try simp only [h])|fail))
end Go.Ab
namespace Go.Ab
open Go.Proofs
theorem eP {n n':Str} {vs vs':List Str} {cs cs':List CE}:(⟨n,vs,cs⟩:DE)=⟨n',vs',cs'⟩↔n=n'∧vs=vs'∧cs=cs':=by simp
theorem kO {n n':Str} {l l':List TE}:(⟨n,l⟩:CE)=⟨n',l'⟩↔n=n'∧l=l':=by simp
theorem lE {n n':Str} {l l':List Str} {b b':Ex}:(⟨n,l,b⟩:FE)=⟨n',l',b'⟩↔n=n'∧l=l'∧b=b':=by simp
theorem fQ {a a':List DE} {b b':List FE}:(⟨a,b⟩:Pg)=⟨a',b'⟩↔a=a'∧b=b':=by simp
abbrev eqL (ds:List DE) (fs:List FE) (ds':List DE) (fs':List FE):Lm:=Be 2 [.d (.sl (ds.map DE.enc)),.d (.sl (fs.map FE.enc))] (Be 3 [.d (.sl (ds'.map DE.enc)),.d (.sl (fs'.map FE.enc))] E)
abbrev eqD (ds:List DE) (fs:List FE) (ds':List DE) (fs':List FE) (n:Str) (vs:List Str) (cs cs':List CE):Lm:=Be 2 [.d (.sl (ds.map DE.enc)),.d (.sl (fs.map FE.enc))] (Be 3 [.d (.sl (ds'.map DE.enc)),.d (.sl (fs'.map FE.enc))] (Be 6 [.d (.str n),.d (.sl (vs.map FB)),.d (.sl (cs.map CE.enc))] (Be 7 [.d (.str n),.d (.sl (vs.map FB)),.d (.sl (cs'.map CE.enc))] E)))
set_option maxHeartbeats 8000000 in
theorem aD (p q:Pg) (σ:AN) (hsz:∀d∈p.data,∀c∈d.cons,c.args.length≤1000000):AT Tryz.prog 14 [pgA p,pgA q] σ (fun v σ'=>v= .d (.bool (eqB p q))∧σ'=σ):=by
 refine cC (by simp) ?_
 rw [BL]
 obtain ⟨ds,fs⟩:=p
 obtain ⟨ds',fs'⟩:=q
 simp only [pgA,Pg.enc,AE,AH]
 by_cases hd:ds.length=ds'.length
 rotate_left
 · rw [D8 (fun e=>Qb hd (fQ.1 e).1)]
   (repeat' (first|refine Run.ct rfl ?_|((first|refine Run.reg mixed ?_|refine Run.AM ?_|refine Run.Ag D3 (AN.le_refl _) ?_|(refine AQ rfl (fun h=>?_) (fun h=>?_)<;>try (cases h;done)))<;>try simp -implicitDefEqProofs only [AI,Qa hd,go_sem])|(refine ⟨fun h=>?_,fun h=>?_⟩<;>first|(cases h;done)|try simp only [h])|fail))
 by_cases hf:fs.length=fs'.length
 rotate_left
 · rw [D8 (fun e=>Qb hf (fQ.1 e).2)]
   (repeat' (first|refine Run.ct rfl ?_|((first|refine Run.reg mixed ?_|refine Run.AM ?_|refine Run.Ag D3 (AN.le_refl _) ?_|(refine AQ rfl (fun h=>?_) (fun h=>?_)<;>try (cases h;done)))<;>try simp -implicitDefEqProofs only [AI,hd,bne_self_eq_false,Qa hf,go_sem])|(refine ⟨fun h=>?_,fun h=>?_⟩<;>first|(cases h;done)|try simp only [h])|fail))
 (repeat' (first|refine Run.ct rfl ?_|((first|refine Run.reg mixed ?_|refine Run.AM ?_|(refine AQ rfl (fun h=>?_) (fun h=>?_)<;>try (cases h;done)))<;>try simp -implicitDefEqProofs only [AI,hd,hf,bne_self_eq_false,go_sem])|(refine ⟨fun h=>?_,fun h=>?_⟩<;>first|(cases h;done)|try simp only [h])|fail))
 refine Run.cell 2 0 rfl rfl (fun hb0=>?_)
 refine Run.cell 2 1 rfl rfl (fun hb1=>?_)
 have hb0:ds.length≤9223372036854775807:=by simpa [AV.FN] using hb0
 have hb1:fs.length≤9223372036854775807:=by simpa [AV.FN] using hb1
 refine Run.Co ?_
 refine Run.Cp ((fun (a2:AV) (a3:AV)=>fun (i:Nat)=>put 2 a2 (put 3 a3 (put 5 (.d (.int .i64 i)) U))) _ _) (fun _=>eqL ds fs ds' fs') (fun _=>σ) (fun i=>i≤ds.length∧ds.take i=ds'.take i) (fun i=>ds.length - i) ?_ 0 ⟨by simp,by simp⟩
 rintro i ⟨hi,ht⟩ ih
 by_cases hlt:i < ds.length
 · obtain ⟨x,hx⟩:=DN hlt
   obtain ⟨y,hy⟩:=DN (show i < ds'.length by omega)
   have he:=CW (enc:=DE.enc) hx
   have he':=CW (enc:=DE.enc) hy
   have hw1:IntKind.i64.wrap ((i:Int)+1)=((i+1:Nat):Int):=by rw [BJ (by omega) (by omega)];omega
   obtain ⟨n,vs,cs⟩:=x
   obtain ⟨n',vs',cs'⟩:=y
   simp only [DE.enc] at he he'
   have hv:=Lb vs vs' σ
   have hne:¬(⟨n,vs,cs⟩:DE)=⟨n',vs',cs'⟩→(⟨ds,fs⟩:Pg)≠⟨ds',fs'⟩:=fun h e=>Uf hx hy h (fQ.1 e).1
   (repeat' (first|refine Run.ct rfl ?_|((first|refine Run.reg mixed ?_|refine Run.AM ?_|(refine AQ rfl (fun h=>?_) (fun h=>?_)<;>try (cases h;done)))<;>try simp -implicitDefEqProofs only [C9 hlt,he,he',AI,go_sem])|(refine ⟨fun h=>?_,fun h=>?_⟩<;>first|(cases h;done)|try simp only [h])|fail))
   refine Run.Qi mixed ?_
   simp -implicitDefEqProofs only [C9 hlt,he,he',AI,and_self,go_sem]
   by_cases hcc:n=n'
   rotate_left
   · rw [D8 (hne fun e=>hcc (eP.1 e).1)]
     (repeat' (first|refine Run.ct rfl ?_|((first|refine Run.reg mixed ?_|refine Run.AM ?_|refine Run.Ag D3 (AN.le_refl _) ?_|(refine AQ rfl (fun h=>?_) (fun h=>?_)<;>try (cases h;done)))<;>try simp -implicitDefEqProofs only [BV,U7 hcc,go_sem])|(refine ⟨fun h=>?_,fun h=>?_⟩<;>first|(cases h;done)|try simp only [h])|fail))
   subst hcc
   by_cases hvv:vs=vs'
   rotate_left
   · rw [D8 (hne fun e=>hvv (eP.1 e).2.1)]
     rw [D8 hvv] at hv
     (repeat' (first|refine Run.ct rfl ?_|((first|refine Run.reg mixed ?_|refine Run.AM ?_|refine Run.Ag D3 (AN.le_refl _) ?_|refine AG.det (hv) ?_|(refine AQ rfl (fun h=>?_) (fun h=>?_)<;>try (cases h;done)))<;>try simp -implicitDefEqProofs only [BV,beq_self_eq_true,go_sem])|(refine ⟨fun h=>?_,fun h=>?_⟩<;>first|(cases h;done)|try simp only [h])|fail))
   subst hvv
   rw [PK] at hv
   by_cases hl:cs.length=cs'.length
   rotate_left
   · rw [D8 (hne fun e=>Qb hl (eP.1 e).2.2)]
     (repeat' (first|refine Run.ct rfl ?_|((first|refine Run.reg mixed ?_|refine Run.AM ?_|refine Run.Ag D3 (AN.le_refl _) ?_|refine AG.det (hv) ?_|(refine AQ rfl (fun h=>?_) (fun h=>?_)<;>try (cases h;done)))<;>try simp -implicitDefEqProofs only [BV,beq_self_eq_true,AI,Qa hl,go_sem])|(refine ⟨fun h=>?_,fun h=>?_⟩<;>first|(cases h;done)|try simp only [h])|fail))
   (repeat' (first|refine Run.ct rfl ?_|((first|refine Run.reg mixed ?_|refine Run.AM ?_|refine AG.det (hv) ?_|(refine AQ rfl (fun h=>?_) (fun h=>?_)<;>try (cases h;done)))<;>try simp -implicitDefEqProofs only [BV,beq_self_eq_true,bne_self_eq_false,AI,hl,go_sem])|(refine ⟨fun h=>?_,fun h=>?_⟩<;>first|(cases h;done)|try simp only [h])|fail))
   refine Run.cell 6 2 rfl rfl (fun hb2=>?_)
   have hb2:cs.length≤9223372036854775807:=by simpa [AV.FN] using hb2
   refine Run.Co ?_
   refine Run.Cp ((fun (a2:AV) (a3:AV) (a5:AV) (a6:AV) (a7:AV)=>fun (k:Nat)=>put 2 a2 (put 3 a3 (put 5 a5 (put 6 a6 (put 7 a7 (put 8 (.d (.int .i64 k)) U)))))) _ _ _ _ _) (fun _=>eqD ds fs ds' fs' n vs cs cs') (fun _=>σ) (fun k=>k≤cs.length∧cs.take k=cs'.take k) (fun k=>cs.length - k) ?_ 0 ⟨by simp,by simp⟩
   rintro k ⟨hk,htk⟩ ihk
   by_cases hltk:k < cs.length
   · obtain ⟨c,hcx⟩:=DN hltk
     obtain ⟨d,hdx⟩:=DN (show k < cs'.length by omega)
     have hce:=CW (enc:=CE.enc) hcx
     have hde:=CW (enc:=CE.enc) hdx
     have hwk:IntKind.i64.wrap ((k:Int)+1)=((k+1:Nat):Int):=by rw [BJ (by omega) (by omega)];omega
     obtain ⟨m,l⟩:=c
     obtain ⟨m',l'⟩:=d
     simp only [CE.enc] at hce hde
     have hnc:¬(⟨m,l⟩:CE)=⟨m',l'⟩→(⟨ds,fs⟩:Pg)≠⟨ds',fs'⟩:=fun h=>hne fun e=>Uf hcx hdx h (eP.1 e).2.2
     by_cases hm:m=m'
     rotate_left
     · rw [D8 (hnc fun e=>hm (kO.1 e).1)]
       (repeat' (first|refine Run.ct rfl ?_|((first|refine Run.reg mixed ?_|refine Run.AM ?_|refine Run.Ag D3 (AN.le_refl _) ?_|(refine AQ rfl (fun h=>?_) (fun h=>?_)<;>try (cases h;done)))<;>try simp -implicitDefEqProofs only [C9 hltk,hce,hde,AI,BV,U7 hm,go_sem])|(refine ⟨fun h=>?_,fun h=>?_⟩<;>first|(cases h;done)|try simp only [h])|fail))
     subst hm
     by_cases hll:l.length=l'.length
     rotate_left
     · rw [D8 (hnc fun e=>Qb hll (kO.1 e).2)]
       (repeat' (first|refine Run.ct rfl ?_|((first|refine Run.reg mixed ?_|refine Run.AM ?_|refine Run.Ag D3 (AN.le_refl _) ?_|(refine AQ rfl (fun h=>?_) (fun h=>?_)<;>try (cases h;done)))<;>try simp -implicitDefEqProofs only [C9 hltk,hce,hde,AI,BV,beq_self_eq_true,Qa hll,go_sem])|(refine ⟨fun h=>?_,fun h=>?_⟩<;>first|(cases h;done)|try simp only [h])|fail))
     (repeat' (first|refine Run.ct rfl ?_|((first|refine Run.reg mixed ?_|refine Run.AM ?_|(refine AQ rfl (fun h=>?_) (fun h=>?_)<;>try (cases h;done)))<;>try simp -implicitDefEqProofs only [C9 hltk,hce,hde,AI,BV,beq_self_eq_true,bne_self_eq_false,hll,go_sem])|(refine ⟨fun h=>?_,fun h=>?_⟩<;>first|(cases h;done)|try simp only [h])|fail))
     refine Run.Co ?_
     refine Run.Cp ((fun (a2:AV) (a3:AV) (a5:AV) (a6:AV) (a7:AV) (a8:AV)=>fun (z:Nat)=>put 2 a2 (put 3 a3 (put 5 a5 (put 6 a6 (put 7 a7 (put 8 a8 (put 9 (.d (.int .i64 z)) U))))))) _ _ _ _ _ _) (fun _=>eqD ds fs ds' fs' n vs cs cs') (fun _=>σ) (fun z=>z≤l.length∧l.take z=l'.take z) (fun z=>l.length - z) ?_ 0 ⟨by simp,by simp⟩
     rintro z ⟨hz,htz⟩ ihz
     by_cases hltz:z < l.length
     · obtain ⟨t,htx⟩:=DN hltz
       obtain ⟨w,hwx⟩:=DN (show z < l'.length by omega)
       have hte:=CW (enc:=TE.enc) htx
       have hwe:=CW (enc:=TE.enc) hwx
       have hc:=Ue t.size t w (A7 _) σ
       have hls:=hsz _ (Ah hx) _ (Ah hcx)
       simp only at hls
       have hwz:IntKind.i64.wrap ((z:Int)+1)=((z+1:Nat):Int):=by rw [BJ (by omega) (by omega)];omega
       by_cases hxy:t=w
       · subst hxy
         rw [PK] at hc
         obtain ⟨k0,n0,l0⟩:=t
         simp only [teA,TE.A3,AE,AH] at hte hwe hc
         (repeat' (first|refine Run.ct rfl ?_|((first|refine Run.reg mixed ?_|refine Run.AM ?_|refine AG.det (hc) ?_|(refine AQ rfl (fun h=>?_) (fun h=>?_)<;>try (cases h;done)))<;>try simp -implicitDefEqProofs only [C9 hltz,C9 hltk,hce,hde,hte,hwe,AI,hwz,go_sem])|(refine ⟨fun h=>?_,fun h=>?_⟩<;>first|(cases h;done)|try simp only [h])|fail))
         exact ihz (z+1) ⟨by omega,Hy htz htx hwx⟩ (by omega)
       · rw [D8 (hnc fun e=>Uf htx hwx hxy (kO.1 e).2)]
         rw [D8 hxy] at hc
         obtain ⟨k0,n0,l0⟩:=t
         obtain ⟨k1,n1,l1⟩:=w
         simp only [teA,TE.A3,AE,AH] at hte hwe hc
         (repeat' (first|refine Run.ct rfl ?_|((first|refine Run.reg mixed ?_|refine Run.AM ?_|refine Run.Ag D3 (AN.le_refl _) ?_|refine AG.det (hc) ?_|(refine AQ rfl (fun h=>?_) (fun h=>?_)<;>try (cases h;done)))<;>try simp -implicitDefEqProofs only [C9 hltz,C9 hltk,hce,hde,hte,hwe,AI,go_sem])|(refine ⟨fun h=>?_,fun h=>?_⟩<;>first|(cases h;done)|try simp only [h])|fail))
     · have hle:=K7 htz hll hltz
       subst hle
       (repeat' (first|refine Run.ct rfl ?_|((first|refine Run.reg mixed ?_|refine Run.AM ?_|(refine AQ rfl (fun h=>?_) (fun h=>?_)<;>try (cases h;done)))<;>try simp -implicitDefEqProofs only [Ib hltz,C9 hltk,hce,hde,AI,hwk,go_sem])|(refine ⟨fun h=>?_,fun h=>?_⟩<;>first|(cases h;done)|try simp only [h])|fail))
       exact ihk (k+1) ⟨by omega,Hy htk hcx hdx⟩ (by omega)
   · have hce:=K7 htk hl hltk
     subst hce
     (repeat' (first|refine Run.ct rfl ?_|((first|refine Run.reg mixed ?_|refine Run.AM ?_|(refine AQ rfl (fun h=>?_) (fun h=>?_)<;>try (cases h;done)))<;>try simp -implicitDefEqProofs only [Ib hltk,AI,hw1,go_sem])|(refine ⟨fun h=>?_,fun h=>?_⟩<;>first|(cases h;done)|try simp only [h])|fail))
     exact ih (i+1) ⟨by omega,Hy ht hx hy⟩ (by omega)
 have hde:=K7 ht hd hlt
 subst hde
 (repeat' (first|refine Run.ct rfl ?_|((first|refine Run.reg mixed ?_|refine Run.AM ?_|(refine AQ rfl (fun h=>?_) (fun h=>?_)<;>try (cases h;done)))<;>try simp -implicitDefEqProofs only [Ib hlt,AI,go_sem])|(refine ⟨fun h=>?_,fun h=>?_⟩<;>first|(cases h;done)|try simp only [h])|fail))
 refine Run.Co ?_
 refine Run.Cp ((fun (a2:AV) (a3:AV)=>fun (i:Nat)=>put 2 a2 (put 3 a3 (put 10 (.d (.int .i64 i)) U))) _ _) (fun _=>eqL ds fs ds fs') (fun _=>σ) (fun i=>i≤fs.length∧fs.take i=fs'.take i) (fun i=>fs.length - i) ?_ 0 ⟨by simp,by simp⟩
 rintro g ⟨hg,htg⟩ ihg
 by_cases hltg:g < fs.length
 · obtain ⟨x,hx⟩:=DN hltg
   obtain ⟨y,hy⟩:=DN (show g < fs'.length by omega)
   have he:=CW (enc:=FE.enc) hx
   have he':=CW (enc:=FE.enc) hy
   have hw1:IntKind.i64.wrap ((g:Int)+1)=((g+1:Nat):Int):=by rw [BJ (by omega) (by omega)];omega
   obtain ⟨n,ps,b⟩:=x
   obtain ⟨n',ps',b'⟩:=y
   have hv:=Lb ps ps' σ
   have hc:=QC b.size b b' (A7 _) σ
   have hne:¬(⟨n,ps,b⟩:FE)=⟨n',ps',b'⟩→(⟨ds,fs⟩:Pg)≠⟨ds,fs'⟩:=fun h e=>Uf hx hy h (fQ.1 e).2
   by_cases hcc:n=n'
   rotate_left
   · rw [D8 (hne fun e=>hcc (lE.1 e).1)]
     obtain ⟨o0,n0,u0,ns0,ks0,al0⟩:=b
     obtain ⟨o1,n1,u1,ns1,ks1,al1⟩:=b'
     simp only [FE.enc,Ex.A3,AU,A6] at he he'
     (repeat' (first|refine Run.ct rfl ?_|((first|refine Run.reg mixed ?_|refine Run.AM ?_|refine Run.Ag D3 (AN.le_refl _) ?_|(refine AQ rfl (fun h=>?_) (fun h=>?_)<;>try (cases h;done)))<;>try simp -implicitDefEqProofs only [C9 hltg,he,he',AI,BV,U7 hcc,go_sem])|(refine ⟨fun h=>?_,fun h=>?_⟩<;>first|(cases h;done)|try simp only [h])|fail))
   subst hcc
   by_cases hvv:ps=ps'
   rotate_left
   · rw [D8 (hne fun e=>hvv (lE.1 e).2.1)]
     rw [D8 hvv] at hv
     obtain ⟨o0,n0,u0,ns0,ks0,al0⟩:=b
     obtain ⟨o1,n1,u1,ns1,ks1,al1⟩:=b'
     simp only [FE.enc,Ex.A3,AU,A6] at he he'
     (repeat' (first|refine Run.ct rfl ?_|((first|refine Run.reg mixed ?_|refine Run.AM ?_|refine Run.Ag D3 (AN.le_refl _) ?_|refine AG.det (hv) ?_|(refine AQ rfl (fun h=>?_) (fun h=>?_)<;>try (cases h;done)))<;>try simp -implicitDefEqProofs only [C9 hltg,he,he',AI,BV,beq_self_eq_true,go_sem])|(refine ⟨fun h=>?_,fun h=>?_⟩<;>first|(cases h;done)|try simp only [h])|fail))
   subst hvv
   rw [PK] at hv
   by_cases hxy:b=b'
   · subst hxy
     rw [PK] at hc
     obtain ⟨o0,n0,u0,ns0,ks0,al0⟩:=b
     simp only [exA,FE.enc,Ex.A3,AU,A6,AE,AH] at he he' hc
     (repeat' (first|refine Run.ct rfl ?_|((first|refine Run.reg mixed ?_|refine Run.AM ?_|refine AG.det (hv) ?_|refine AG.det (hc) ?_|(refine AQ rfl (fun h=>?_) (fun h=>?_)<;>try (cases h;done)))<;>try simp -implicitDefEqProofs only [C9 hltg,he,he',hw1,AI,BV,beq_self_eq_true,go_sem])|(refine ⟨fun h=>?_,fun h=>?_⟩<;>first|(cases h;done)|try simp only [h])|fail))
     exact ihg (g+1) ⟨by omega,Hy htg hx hy⟩ (by omega)
   · rw [D8 (hne fun e=>hxy (lE.1 e).2.2)]
     rw [D8 hxy] at hc
     obtain ⟨o0,n0,u0,ns0,ks0,al0⟩:=b
     obtain ⟨o1,n1,u1,ns1,ks1,al1⟩:=b'
     simp only [exA,FE.enc,Ex.A3,AU,A6,AE,AH] at he he' hc
     (repeat' (first|refine Run.ct rfl ?_|((first|refine Run.reg mixed ?_|refine Run.AM ?_|refine Run.Ag D3 (AN.le_refl _) ?_|refine AG.det (hv) ?_|refine AG.det (hc) ?_|(refine AQ rfl (fun h=>?_) (fun h=>?_)<;>try (cases h;done)))<;>try simp -implicitDefEqProofs only [C9 hltg,he,he',AI,BV,beq_self_eq_true,go_sem])|(refine ⟨fun h=>?_,fun h=>?_⟩<;>first|(cases h;done)|try simp only [h])|fail))
 · have hfe:=K7 htg hf hltg
   subst hfe
   rw [PK]
   (repeat' (first|refine Run.ct rfl ?_|((first|refine Run.reg mixed ?_|refine Run.AM ?_|refine Run.Ag D3 (AN.le_refl _) ?_|(refine AQ rfl (fun h=>?_) (fun h=>?_)<;>try (cases h;done)))<;>try simp -implicitDefEqProofs only [Ib hltg,AI,go_sem])|(refine ⟨fun h=>?_,fun h=>?_⟩<;>first|(cases h;done)|try simp only [h])|fail))
end Go.Ab
