/- Equality of trees, the reference's. Equality of expressions, the reference's. Equality of programs, the reference's. Conditions: none. -/
import Derived.Test.YtifplkldbbcldaaGreatDoorXSx
set_option linter.unusedSimpArgs false
set_option linter.unusedVariables false
set_option maxRecDepth 4000
set_option maxHeartbeats 8000000
open Classical renaming propDecidable→Nx
open Option.some renaming inj→Gv
open List renaming take_of_length_le→Ae,length_map→AF,map_cons→AD,map_nil→AG,mem_of_getElem?→A6,cons_append→AX,nil_append→A0
open Nat renaming le_refl→A8
namespace Go.Ab
open Go.Proofs
noncomputable def eqB {α:Type} (a b:α):Bool:=@decide (a=b) (Nx _)
theorem JS {α:Type} {a b:α} (h:a=b):eqB a b=true:=@decide_eq_true _ (Nx _) h
theorem BF {α:Type} {a b:α} (h:a≠b):eqB a b=false:=@decide_eq_false _ (Nx _) h
theorem j0 {α:Type} {a b:α}:eqB a b=true↔a=b:=⟨fun h=>@of_decide_eq_true _ (Nx _) h,JS⟩
theorem MM {α:Type} (a:α):eqB a a=true:=JS rfl
theorem I4 {α:Type} {l m:List α} (h:l.length≠m.length):l≠m:=fun e=>h (by rw [e])
theorem Mr {α:Type} {l m:List α} {i:Nat} {x y:α} (hx:l[i]?=some x) (hy:m[i]?=some y) (h:x≠y):l≠m:=fun e=>h (by rw [e,hy] at hx;exact (Gv hx).symm)
theorem Dp {α:Type} {l m:List α} {i:Nat} {x:α} (h:l.take i=m.take i) (hx:l[i]?=some x) (hy:m[i]?=some x):l.take (i+1)=m.take (i+1):=by rw [Ft hx,Ft hy,h]
theorem Ep {α:Type} {l m:List α} {i:Nat} (h:l.take i=m.take i) (hl:l.length=m.length) (hi:¬i < l.length):l=m:=by
 rwa [Ae (by omega),Ae (by omega)] at h
theorem yE {a b:Nat} (h:a≠b):((a:Int)==(b:Int))=false:=Ds (by omega)
theorem I3 {a b:Nat} (h:a≠b):((a:Int) != (b:Int))=true:=by rw [bne,yE h];rfl
theorem gX {a b:Int} (h:a≠b):(a != b)=true:=by rw [bne,Ds h];rfl
theorem MD {a b:List UInt8} (h:¬a=b):(a==b)=false:=by simpa using h
theorem r7 {a b:Str} (h:a≠b):(a==b)=false:=by simpa using h
theorem Mk (l m:List Str) (σ:AM):AQ Tryz.prog 36 [.d (.sl (l.map Dt)),.d (.sl (m.map Dt))] σ (fun v σ'=>v= .d (.bool (eqB l m))∧σ'=σ):=by
 refine Xy (by simp) ?_
 rw [Ax]
 refine Run.slot 0 (fun hb0=>?_)
 have hb0:l.length≤9223372036854775807:=by simpa [Eg,AV.Dz] using hb0
 by_cases hl:l.length=m.length
 · (repeat' (first|refine Run.ct rfl ?_|((first|refine Run.reg mixed ?_|refine Run.AJ ?_|(refine AP rfl (fun h=>?_) (fun h=>?_)<;>try (cases h;done)))<;>try simp -implicitDefEqProofs only [AF,hl,beq_self_eq_true,bne_self_eq_false,BS,go_sem])|(refine ⟨fun h=>?_,fun h=>?_⟩<;>first|(cases h;done)|try simp only [h])|fail))
   refine Run.Bl ?_
   refine Run.Bm ((fun (a0:AV) (a1:AV)=>fun (i:Nat)=>put 0 a0 (put 1 a1 (put 5 (.d (.int .i64 i)) U))) _ _) (fun _=>E) (fun _=>σ) (fun i=>i≤l.length∧l.take i=m.take i) (fun i=>l.length - i) ?_ 0 ⟨by simp,by simp⟩
   rintro i ⟨hi,ht⟩ ih
   by_cases hlt:i < l.length
   · obtain ⟨x,hx⟩:=B4 hlt
     obtain ⟨y,hy⟩:=B4 (show i < m.length by omega)
     have he:=BK (enc:=Dt) hx
     have he':=BK (enc:=Dt) hy
     simp only [Dt] at he he'
     have hw1:IntKind.i64.wrap ((i:Int)+1)=((i+1:Nat):Int):=by rw [Au (by omega) (by omega)];omega
     by_cases hxy:x=y
     · subst hxy
       (repeat' (first|refine Run.ct rfl ?_|((first|refine Run.reg mixed ?_|refine Run.AJ ?_|(refine AP rfl (fun h=>?_) (fun h=>?_)<;>try (cases h;done)))<;>try simp -implicitDefEqProofs only [Bk hlt,he,he',hw1,beq_self_eq_true,bne_self_eq_false,BS,AF,go_sem])|(refine ⟨fun h=>?_,fun h=>?_⟩<;>first|(cases h;done)|try simp only [h])|fail))
       exact ih (i+1) ⟨by omega,Dp ht hx hy⟩ (by omega)
     · rw [BF (Mr hx hy hxy)]
       (repeat' (first|refine Run.ct rfl ?_|((first|refine Run.reg mixed ?_|refine Run.AJ ?_|refine Run.A9 JT (AM.le_refl _) ?_|(refine AP rfl (fun h=>?_) (fun h=>?_)<;>try (cases h;done)))<;>try simp -implicitDefEqProofs only [Bk hlt,he,he',r7 hxy,BS,AF,go_sem])|(refine ⟨fun h=>?_,fun h=>?_⟩<;>first|(cases h;done)|try simp only [h])|fail))
   · rw [JS (Ep ht hl hlt)]
     (repeat' (first|refine Run.ct rfl ?_|((first|refine Run.reg mixed ?_|refine Run.AJ ?_|refine Run.A9 JT (AM.le_refl _) ?_|(refine AP rfl (fun h=>?_) (fun h=>?_)<;>try (cases h;done)))<;>try simp -implicitDefEqProofs only [HQ hlt,AF,go_sem])|(refine ⟨fun h=>?_,fun h=>?_⟩<;>first|(cases h;done)|try simp only [h])|fail))
 · rw [BF (I4 hl)]
   (repeat' (first|refine Run.ct rfl ?_|((first|refine Run.reg mixed ?_|refine Run.AJ ?_|refine Run.A9 JT (AM.le_refl _) ?_|(refine AP rfl (fun h=>?_) (fun h=>?_)<;>try (cases h;done)))<;>try simp -implicitDefEqProofs only [AF,I3 hl,go_sem])|(refine ⟨fun h=>?_,fun h=>?_⟩<;>first|(cases h;done)|try simp only [h])|fail))
theorem WZ:∀(N:Nat) (t u:TE),t.size≤N→∀σ,AQ Tryz.prog 37 [teA t,teA u] σ (fun v σ'=>v= .d (.bool (eqB t u))∧σ'=σ)
 |0,t,u,h,_=>by have:=TE.size_pos t;omega
 |N+1,.mk k n l,.mk k' n' m,h,σ=>by
  rw [TE.size] at h
  have ihN:=fun x hx u=>WZ N x u (by have:=TE.Ka (l:=l) (t:=x) hx;omega) σ
  refine ZS (by simp) ?_
  rw [Ax]
  simp only [teA,TE.A2,AD,AG]
  by_cases hk:k=k'
  · subst hk
    by_cases hn:n=n'
    · subst hn
      by_cases hl:l.length=m.length
      · (repeat' (first|refine Run.ct rfl ?_|((first|refine Run.reg mixed ?_|refine Run.AJ ?_|(refine AP rfl (fun h=>?_) (fun h=>?_)<;>try (cases h;done)))<;>try simp -implicitDefEqProofs only [AF,hl,beq_self_eq_true,bne_self_eq_false,BS,go_sem])|(refine ⟨fun h=>?_,fun h=>?_⟩<;>first|(cases h;done)|try simp only [h])|fail))
        refine Run.cell 2 2 rfl rfl (fun hb0=>?_)
        have hb0:l.length≤9223372036854775807:=by simpa [AV.Dz] using hb0
        refine Run.Bl ?_
        refine Run.Bm ((fun (a2:AV) (a3:AV)=>fun (i:Nat)=>put 2 a2 (put 3 a3 (put 5 (.d (.int .i64 i)) U))) _ _) (fun _=>B6 2 [.d (.int .i64 k),.d (.str n),.d (.sl (l.map TE.enc))] (B6 3 [.d (.int .i64 k),.d (.str n),.d (.sl (m.map TE.enc))] E)) (fun _=>σ) (fun i=>i≤l.length∧l.take i=m.take i) (fun i=>l.length - i) ?_ 0 ⟨by simp,by simp⟩
        rintro i ⟨hi,ht⟩ ih
        by_cases hlt:i < l.length
        · obtain ⟨x,hx⟩:=B4 hlt
          obtain ⟨y,hy⟩:=B4 (show i < m.length by omega)
          have he:=BK (enc:=TE.enc) hx
          have he':=BK (enc:=TE.enc) hy
          have hw1:IntKind.i64.wrap ((i:Int)+1)=((i+1:Nat):Int):=by rw [Au (by omega) (by omega)];omega
          have hc:=ihN x (A6 hx) y
          by_cases hxy:x=y
          · subst hxy
            rw [MM] at hc
            obtain ⟨k0,n0,l0⟩:=x
            simp only [teA,TE.A2,AD,AG] at he he' hc
            (repeat' (first|refine Run.ct rfl ?_|((first|refine Run.reg mixed ?_|refine Run.AJ ?_|refine AI.det (hc) ?_|(refine AP rfl (fun h=>?_) (fun h=>?_)<;>try (cases h;done)))<;>try simp -implicitDefEqProofs only [Bk hlt,he,he',hw1,AF,go_sem])|(refine ⟨fun h=>?_,fun h=>?_⟩<;>first|(cases h;done)|try simp only [h])|fail))
            exact ih (i+1) ⟨by omega,Dp ht hx hy⟩ (by omega)
          · rw [BF (show TE.mk k n l≠TE.mk k n m from fun e=>Mr hx hy hxy (by injection e))]
            rw [BF hxy] at hc
            obtain ⟨k0,n0,l0⟩:=x
            obtain ⟨k1,n1,l1⟩:=y
            simp only [teA,TE.A2,AD,AG] at he he' hc
            (repeat' (first|refine Run.ct rfl ?_|((first|refine Run.reg mixed ?_|refine Run.AJ ?_|refine Run.A9 G8 (AM.le_refl _) ?_|refine AI.det (hc) ?_|(refine AP rfl (fun h=>?_) (fun h=>?_)<;>try (cases h;done)))<;>try simp -implicitDefEqProofs only [Bk hlt,he,he',AF,go_sem])|(refine ⟨fun h=>?_,fun h=>?_⟩<;>first|(cases h;done)|try simp only [h])|fail))
        · rw [JS (show TE.mk k n l=TE.mk k n m by rw [Ep ht hl hlt])]
          (repeat' (first|refine Run.ct rfl ?_|((first|refine Run.reg mixed ?_|refine Run.AJ ?_|refine Run.A9 G8 (AM.le_refl _) ?_|(refine AP rfl (fun h=>?_) (fun h=>?_)<;>try (cases h;done)))<;>try simp -implicitDefEqProofs only [HQ hlt,AF,go_sem])|(refine ⟨fun h=>?_,fun h=>?_⟩<;>first|(cases h;done)|try simp only [h])|fail))
      · rw [BF (show TE.mk k n l≠TE.mk k n m from fun e=>I4 hl (by injection e))]
        (repeat' (first|refine Run.ct rfl ?_|((first|refine Run.reg mixed ?_|refine Run.AJ ?_|refine Run.A9 G8 (AM.le_refl _) ?_|(refine AP rfl (fun h=>?_) (fun h=>?_)<;>try (cases h;done)))<;>try simp -implicitDefEqProofs only [AF,I3 hl,beq_self_eq_true,bne_self_eq_false,BS,go_sem])|(refine ⟨fun h=>?_,fun h=>?_⟩<;>first|(cases h;done)|try simp only [h])|fail))
    · rw [BF (show TE.mk k n l≠TE.mk k n' m from fun e=>hn (by injection e))]
      (repeat' (first|refine Run.ct rfl ?_|((first|refine Run.reg mixed ?_|refine Run.AJ ?_|refine Run.A9 G8 (AM.le_refl _) ?_|(refine AP rfl (fun h=>?_) (fun h=>?_)<;>try (cases h;done)))<;>try simp -implicitDefEqProofs only [MD hn,BS,beq_self_eq_true,bne_self_eq_false,BS,go_sem])|(refine ⟨fun h=>?_,fun h=>?_⟩<;>first|(cases h;done)|try simp only [h])|fail))
  · rw [BF (show TE.mk k n l≠TE.mk k' n' m from fun e=>hk (by injection e))]
    (repeat' (first|refine Run.ct rfl ?_|((first|refine Run.reg mixed ?_|refine Run.AJ ?_|refine Run.A9 G8 (AM.le_refl _) ?_|(refine AP rfl (fun h=>?_) (fun h=>?_)<;>try (cases h;done)))<;>try simp -implicitDefEqProofs only [gX hk,go_sem])|(refine ⟨fun h=>?_,fun h=>?_⟩<;>first|(cases h;done)|try simp only [h])|fail))
end Go.Ab
namespace Go.Ab
open Go.Proofs
set_option maxHeartbeats 8000000 in
theorem Rg:∀(N:Nat) (t u:Ex),t.size≤N→∀σ,AQ Tryz.prog 38 [exA t,exA u] σ (fun v σ'=>v= .d (.bool (eqB t u))∧σ'=σ)
 |0,t,u,h,_=>by have:=Ex.size_pos t;omega
 |N+1,.mk o n u ns ks al,.mk o' n' u' ns' ks' al',h,σ=>by
  rw [Ex.size] at h
  have ihN:=fun x hx u=>Rg N x u (by have:=Ex.Ka (l:=ks) (t:=x) hx;omega) σ
  have ihA:∀c vs b,Al.mk c vs b∈al→∀u,AQ Tryz.prog 38 [exA b,exA u] σ (fun v σ'=>v= .d (.bool (eqB b u))∧σ'=σ):=fun c vs b hx u=>Rg N b u (by have:=Al.Ka (l:=al) hx;rw [Al.size] at this;omega) σ
  have hsn:=Mk ns ns' σ
  refine ZR (by simp) ?_
  rw [Ax]
  simp only [exA,Ex.A2,AD,AG]
  by_cases ho:o=o'
  rotate_left
  · rw [BF (fun e=>ho (by injection e))]
    (repeat' (first|refine Run.ct rfl ?_|((first|refine Run.reg mixed ?_|refine Run.AJ ?_|refine Run.A9 C1 (AM.le_refl _) ?_|(refine AP rfl (fun h=>?_) (fun h=>?_)<;>try (cases h;done)))<;>try simp -implicitDefEqProofs only [gX ho,go_sem])|(refine ⟨fun h=>?_,fun h=>?_⟩<;>first|(cases h;done)|try simp only [h])|fail))
  subst ho
  by_cases hn:n=n'
  rotate_left
  · rw [BF (fun e=>hn (by injection e))]
    (repeat' (first|refine Run.ct rfl ?_|((first|refine Run.reg mixed ?_|refine Run.AJ ?_|refine Run.A9 C1 (AM.le_refl _) ?_|(refine AP rfl (fun h=>?_) (fun h=>?_)<;>try (cases h;done)))<;>try simp -implicitDefEqProofs only [MD hn,BS,bne_self_eq_false,go_sem])|(refine ⟨fun h=>?_,fun h=>?_⟩<;>first|(cases h;done)|try simp only [h])|fail))
  subst hn
  by_cases hu:u=u'
  rotate_left
  · rw [BF (fun e=>hu (by injection e))]
    (repeat' (first|refine Run.ct rfl ?_|((first|refine Run.reg mixed ?_|refine Run.AJ ?_|refine Run.A9 C1 (AM.le_refl _) ?_|(refine AP rfl (fun h=>?_) (fun h=>?_)<;>try (cases h;done)))<;>try simp -implicitDefEqProofs only [gX hu,beq_self_eq_true,BS,bne_self_eq_false,go_sem])|(refine ⟨fun h=>?_,fun h=>?_⟩<;>first|(cases h;done)|try simp only [h])|fail))
  subst hu
  by_cases hs:ns=ns'
  rotate_left
  · rw [BF hs] at hsn
    rw [BF (fun e=>hs (by injection e))]
    (repeat' (first|refine Run.ct rfl ?_|((first|refine Run.reg mixed ?_|refine Run.AJ ?_|refine Run.A9 C1 (AM.le_refl _) ?_|refine AI.det (hsn) ?_|(refine AP rfl (fun h=>?_) (fun h=>?_)<;>try (cases h;done)))<;>try simp -implicitDefEqProofs only [beq_self_eq_true,BS,bne_self_eq_false,go_sem])|(refine ⟨fun h=>?_,fun h=>?_⟩<;>first|(cases h;done)|try simp only [h])|fail))
  subst hs
  rw [MM] at hsn
  by_cases hk:ks.length=ks'.length
  rotate_left
  · rw [BF (fun e=>I4 hk (by injection e))]
    (repeat' (first|refine Run.ct rfl ?_|((first|refine Run.reg mixed ?_|refine Run.AJ ?_|refine Run.A9 C1 (AM.le_refl _) ?_|refine AI.det (hsn) ?_|(refine AP rfl (fun h=>?_) (fun h=>?_)<;>try (cases h;done)))<;>try simp -implicitDefEqProofs only [beq_self_eq_true,BS,bne_self_eq_false,I3 hk,AF,go_sem])|(refine ⟨fun h=>?_,fun h=>?_⟩<;>first|(cases h;done)|try simp only [h])|fail))
  by_cases ha:al.length=al'.length
  rotate_left
  · rw [BF (fun e=>I4 ha (by injection e))]
    (repeat' (first|refine Run.ct rfl ?_|((first|refine Run.reg mixed ?_|refine Run.AJ ?_|refine Run.A9 C1 (AM.le_refl _) ?_|refine AI.det (hsn) ?_|(refine AP rfl (fun h=>?_) (fun h=>?_)<;>try (cases h;done)))<;>try simp -implicitDefEqProofs only [beq_self_eq_true,BS,bne_self_eq_false,I3 ha,AF,hk,go_sem])|(refine ⟨fun h=>?_,fun h=>?_⟩<;>first|(cases h;done)|try simp only [h])|fail))
  (repeat' (first|refine Run.ct rfl ?_|((first|refine Run.reg mixed ?_|refine Run.AJ ?_|refine AI.det (hsn) ?_|(refine AP rfl (fun h=>?_) (fun h=>?_)<;>try (cases h;done)))<;>try simp -implicitDefEqProofs only [beq_self_eq_true,BS,bne_self_eq_false,AF,hk,ha,go_sem])|(refine ⟨fun h=>?_,fun h=>?_⟩<;>first|(cases h;done)|try simp only [h])|fail))
  refine Run.cell 2 4 rfl rfl (fun hb0=>?_)
  refine Run.cell 2 5 rfl rfl (fun hb1=>?_)
  have hb0:ks.length≤9223372036854775807:=by simpa [AV.Dz] using hb0
  have hb1:al.length≤9223372036854775807:=by simpa [AV.Dz] using hb1
  refine Run.Bl ?_
  refine Run.Bm ((fun (a2:AV) (a3:AV)=>fun (i:Nat)=>put 2 a2 (put 3 a3 (put 5 (.d (.int .i64 i)) U))) _ _) (fun _=>B6 2 [.d (.int .i64 o),.d (.str n),.d (.int .i64 u),.d (.sl (ns.map Dt)),.d (.sl (ks.map Ex.enc)),.d (.sl (al.map Al.enc))] (B6 3 [.d (.int .i64 o),.d (.str n),.d (.int .i64 u),.d (.sl (ns.map Dt)),.d (.sl (ks'.map Ex.enc)),.d (.sl (al'.map Al.enc))] E)) (fun _=>σ) (fun i=>i≤ks.length∧ks.take i=ks'.take i) (fun i=>ks.length - i) ?_ 0 ⟨by simp,by simp⟩
  rintro i ⟨hi,ht⟩ ih
  by_cases hlt:i < ks.length
  · obtain ⟨x,hx⟩:=B4 hlt
    obtain ⟨y,hy⟩:=B4 (show i < ks'.length by omega)
    have he:=BK (enc:=Ex.enc) hx
    have he':=BK (enc:=Ex.enc) hy
    have hw1:IntKind.i64.wrap ((i:Int)+1)=((i+1:Nat):Int):=by rw [Au (by omega) (by omega)];omega
    have hc:=ihN x (A6 hx) y
    by_cases hxy:x=y
    · subst hxy
      rw [MM] at hc
      obtain ⟨o0,n0,u0,ns0,ks0,al0⟩:=x
      simp only [exA,Ex.A2,AD,AG] at he he' hc
      (repeat' (first|refine Run.ct rfl ?_|((first|refine Run.reg mixed ?_|refine Run.AJ ?_|refine AI.det (hc) ?_|(refine AP rfl (fun h=>?_) (fun h=>?_)<;>try (cases h;done)))<;>try simp -implicitDefEqProofs only [Bk hlt,he,he',hw1,AF,go_sem])|(refine ⟨fun h=>?_,fun h=>?_⟩<;>first|(cases h;done)|try simp only [h])|fail))
      exact ih (i+1) ⟨by omega,Dp ht hx hy⟩ (by omega)
    · rw [BF (fun e=>Mr hx hy hxy (by injection e))]
      rw [BF hxy] at hc
      obtain ⟨o0,n0,u0,ns0,ks0,al0⟩:=x
      obtain ⟨o1,n1,u1,ns1,ks1,al1⟩:=y
      simp only [exA,Ex.A2,AD,AG] at he he' hc
      (repeat' (first|refine Run.ct rfl ?_|((first|refine Run.reg mixed ?_|refine Run.AJ ?_|refine Run.A9 C1 (AM.le_refl _) ?_|refine AI.det (hc) ?_|(refine AP rfl (fun h=>?_) (fun h=>?_)<;>try (cases h;done)))<;>try simp -implicitDefEqProofs only [Bk hlt,he,he',AF,go_sem])|(refine ⟨fun h=>?_,fun h=>?_⟩<;>first|(cases h;done)|try simp only [h])|fail))
  have hke:=Ep ht hk hlt
  subst hke
  (repeat' (first|refine Run.ct rfl ?_|((first|refine Run.reg mixed ?_|refine Run.AJ ?_|(refine AP rfl (fun h=>?_) (fun h=>?_)<;>try (cases h;done)))<;>try simp -implicitDefEqProofs only [HQ hlt,AF,go_sem])|(refine ⟨fun h=>?_,fun h=>?_⟩<;>first|(cases h;done)|try simp only [h])|fail))
  refine Run.Bl ?_
  refine Run.Bm ((fun (a2:AV) (a3:AV)=>fun (i:Nat)=>put 2 a2 (put 3 a3 (put 6 (.d (.int .i64 i)) U))) _ _) (fun _=>B6 2 [.d (.int .i64 o),.d (.str n),.d (.int .i64 u),.d (.sl (ns.map Dt)),.d (.sl (ks.map Ex.enc)),.d (.sl (al.map Al.enc))] (B6 3 [.d (.int .i64 o),.d (.str n),.d (.int .i64 u),.d (.sl (ns.map Dt)),.d (.sl (ks.map Ex.enc)),.d (.sl (al'.map Al.enc))] E)) (fun _=>σ) (fun i=>i≤al.length∧al.take i=al'.take i) (fun i=>al.length - i) ?_ 0 ⟨by simp,by simp⟩
  rintro q ⟨hq,htq⟩ ihq
  by_cases hltq:q < al.length
  · obtain ⟨x,hx⟩:=B4 hltq
    obtain ⟨y,hy⟩:=B4 (show q < al'.length by omega)
    have he:=BK (enc:=Al.enc) hx
    have he':=BK (enc:=Al.enc) hy
    have hw1:IntKind.i64.wrap ((q:Int)+1)=((q+1:Nat):Int):=by rw [Au (by omega) (by omega)];omega
    obtain ⟨c,vs,b⟩:=x
    obtain ⟨c',vs',b'⟩:=y
    have hc:=ihA c vs b (A6 hx) b'
    have hv:=Mk vs vs' σ
    have hne:¬Al.mk c vs b= .mk c' vs' b'→Ex.mk o n u ns ks al≠.mk o n u ns ks al':=fun h e=>Mr hx hy h (by injection e)
    by_cases hcc:c=c'
    rotate_left
    · rw [BF (hne fun e=>hcc (by injection e))]
      obtain ⟨o0,n0,u0,ns0,ks0,al0⟩:=b
      obtain ⟨o1,n1,u1,ns1,ks1,al1⟩:=b'
      simp only [Al.A2,Ex.A2] at he he'
      (repeat' (first|refine Run.ct rfl ?_|((first|refine Run.reg mixed ?_|refine Run.AJ ?_|refine Run.A9 C1 (AM.le_refl _) ?_|(refine AP rfl (fun h=>?_) (fun h=>?_)<;>try (cases h;done)))<;>try simp -implicitDefEqProofs only [Bk hltq,he,he',AF,BS,MD hcc,go_sem])|(refine ⟨fun h=>?_,fun h=>?_⟩<;>first|(cases h;done)|try simp only [h])|fail))
    subst hcc
    by_cases hvv:vs=vs'
    rotate_left
    · rw [BF (hne fun e=>hvv (by injection e))]
      rw [BF hvv] at hv
      obtain ⟨o0,n0,u0,ns0,ks0,al0⟩:=b
      obtain ⟨o1,n1,u1,ns1,ks1,al1⟩:=b'
      simp only [Al.A2,Ex.A2] at he he'
      (repeat' (first|refine Run.ct rfl ?_|((first|refine Run.reg mixed ?_|refine Run.AJ ?_|refine Run.A9 C1 (AM.le_refl _) ?_|refine AI.det (hv) ?_|(refine AP rfl (fun h=>?_) (fun h=>?_)<;>try (cases h;done)))<;>try simp -implicitDefEqProofs only [Bk hltq,he,he',AF,BS,beq_self_eq_true,go_sem])|(refine ⟨fun h=>?_,fun h=>?_⟩<;>first|(cases h;done)|try simp only [h])|fail))
    subst hvv
    rw [MM] at hv
    by_cases hxy:b=b'
    · subst hxy
      rw [MM] at hc
      obtain ⟨o0,n0,u0,ns0,ks0,al0⟩:=b
      simp only [exA,Al.A2,Ex.A2,AD,AG] at he he' hc
      (repeat' (first|refine Run.ct rfl ?_|((first|refine Run.reg mixed ?_|refine Run.AJ ?_|refine AI.det (hv) ?_|refine AI.det (hc) ?_|(refine AP rfl (fun h=>?_) (fun h=>?_)<;>try (cases h;done)))<;>try simp -implicitDefEqProofs only [Bk hltq,he,he',hw1,AF,BS,beq_self_eq_true,go_sem])|(refine ⟨fun h=>?_,fun h=>?_⟩<;>first|(cases h;done)|try simp only [h])|fail))
      exact ihq (q+1) ⟨by omega,Dp htq hx hy⟩ (by omega)
    · rw [BF (hne fun e=>hxy (by injection e))]
      rw [BF hxy] at hc
      obtain ⟨o0,n0,u0,ns0,ks0,al0⟩:=b
      obtain ⟨o1,n1,u1,ns1,ks1,al1⟩:=b'
      simp only [exA,Al.A2,Ex.A2,AD,AG] at he he' hc
      (repeat' (first|refine Run.ct rfl ?_|((first|refine Run.reg mixed ?_|refine Run.AJ ?_|refine Run.A9 C1 (AM.le_refl _) ?_|refine AI.det (hv) ?_|refine AI.det (hc) ?_|(refine AP rfl (fun h=>?_) (fun h=>?_)<;>try (cases h;done)))<;>try simp -implicitDefEqProofs only [Bk hltq,he,he',AF,BS,beq_self_eq_true,go_sem])|(refine ⟨fun h=>?_,fun h=>?_⟩<;>first|(cases h;done)|try simp only [h])|fail))
  · have hae:=Ep htq ha hltq
    subst hae
    rw [MM]
    (repeat' (first|refine Run.ct rfl ?_|((first|refine Run.reg mixed ?_|refine Run.AJ ?_|refine Run.A9 C1 (AM.le_refl _) ?_|(refine AP rfl (fun h=>?_) (fun h=>?_)<;>try (cases h;done)))<;>try simp -implicitDefEqProofs only [HQ hltq,AF,go_sem])|(refine ⟨fun h=>?_,fun h=>?_⟩<;>first|(cases h;done)|try simp only [h])|fail))
end Go.Ab
namespace Go.Ab
open Go.Proofs
theorem Zk {n n':Str} {vs vs':List Str} {cs cs':List CE}:(⟨n,vs,cs⟩:DE)=⟨n',vs',cs'⟩↔n=n'∧vs=vs'∧cs=cs':=by simp
theorem jT {n n':Str} {l l':List TE}:(⟨n,l⟩:CE)=⟨n',l'⟩↔n=n'∧l=l':=by simp
theorem dN {n n':Str} {l l':List Str} {b b':Ex}:(⟨n,l,b⟩:FE)=⟨n',l',b'⟩↔n=n'∧l=l'∧b=b':=by simp
theorem eQ {a a':List DE} {b b':List FE}:(⟨a,b⟩:Pg)=⟨a',b'⟩↔a=a'∧b=b':=by simp
abbrev eqL (ds:List DE) (fs:List FE) (ds':List DE) (fs':List FE):Lm:=B6 2 [.d (.sl (ds.map DE.enc)),.d (.sl (fs.map FE.enc))] (B6 3 [.d (.sl (ds'.map DE.enc)),.d (.sl (fs'.map FE.enc))] E)
abbrev eqD (ds:List DE) (fs:List FE) (ds':List DE) (fs':List FE) (n:Str) (vs:List Str) (cs cs':List CE):Lm:=B6 2 [.d (.sl (ds.map DE.enc)),.d (.sl (fs.map FE.enc))] (B6 3 [.d (.sl (ds'.map DE.enc)),.d (.sl (fs'.map FE.enc))] (B6 6 [.d (.str n),.d (.sl (vs.map Dt)),.d (.sl (cs.map CE.enc))] (B6 7 [.d (.str n),.d (.sl (vs.map Dt)),.d (.sl (cs'.map CE.enc))] E)))
set_option maxHeartbeats 8000000 in
theorem eW (p q:Pg) (σ:AM) (hsz:∀d∈p.data,∀c∈d.cons,c.args.length≤1000000):AQ Tryz.prog 14 [pgA p,pgA q] σ (fun v σ'=>v= .d (.bool (eqB p q))∧σ'=σ):=by
 refine gW (by simp) ?_
 rw [Ax]
 obtain ⟨ds,fs⟩:=p
 obtain ⟨ds',fs'⟩:=q
 simp only [pgA,Pg.enc,AD,AG]
 by_cases hd:ds.length=ds'.length
 rotate_left
 · rw [BF (fun e=>I4 hd (eQ.1 e).1)]
   (repeat' (first|refine Run.ct rfl ?_|((first|refine Run.reg mixed ?_|refine Run.AJ ?_|refine Run.A9 Dj (AM.le_refl _) ?_|(refine AP rfl (fun h=>?_) (fun h=>?_)<;>try (cases h;done)))<;>try simp -implicitDefEqProofs only [AF,I3 hd,go_sem])|(refine ⟨fun h=>?_,fun h=>?_⟩<;>first|(cases h;done)|try simp only [h])|fail))
 by_cases hf:fs.length=fs'.length
 rotate_left
 · rw [BF (fun e=>I4 hf (eQ.1 e).2)]
   (repeat' (first|refine Run.ct rfl ?_|((first|refine Run.reg mixed ?_|refine Run.AJ ?_|refine Run.A9 Dj (AM.le_refl _) ?_|(refine AP rfl (fun h=>?_) (fun h=>?_)<;>try (cases h;done)))<;>try simp -implicitDefEqProofs only [AF,hd,bne_self_eq_false,I3 hf,go_sem])|(refine ⟨fun h=>?_,fun h=>?_⟩<;>first|(cases h;done)|try simp only [h])|fail))
 (repeat' (first|refine Run.ct rfl ?_|((first|refine Run.reg mixed ?_|refine Run.AJ ?_|(refine AP rfl (fun h=>?_) (fun h=>?_)<;>try (cases h;done)))<;>try simp -implicitDefEqProofs only [AF,hd,hf,bne_self_eq_false,go_sem])|(refine ⟨fun h=>?_,fun h=>?_⟩<;>first|(cases h;done)|try simp only [h])|fail))
 refine Run.cell 2 0 rfl rfl (fun hb0=>?_)
 refine Run.cell 2 1 rfl rfl (fun hb1=>?_)
 have hb0:ds.length≤9223372036854775807:=by simpa [AV.Dz] using hb0
 have hb1:fs.length≤9223372036854775807:=by simpa [AV.Dz] using hb1
 refine Run.Bl ?_
 refine Run.Bm ((fun (a2:AV) (a3:AV)=>fun (i:Nat)=>put 2 a2 (put 3 a3 (put 5 (.d (.int .i64 i)) U))) _ _) (fun _=>eqL ds fs ds' fs') (fun _=>σ) (fun i=>i≤ds.length∧ds.take i=ds'.take i) (fun i=>ds.length - i) ?_ 0 ⟨by simp,by simp⟩
 rintro i ⟨hi,ht⟩ ih
 by_cases hlt:i < ds.length
 · obtain ⟨x,hx⟩:=B4 hlt
   obtain ⟨y,hy⟩:=B4 (show i < ds'.length by omega)
   have he:=BK (enc:=DE.enc) hx
   have he':=BK (enc:=DE.enc) hy
   have hw1:IntKind.i64.wrap ((i:Int)+1)=((i+1:Nat):Int):=by rw [Au (by omega) (by omega)];omega
   obtain ⟨n,vs,cs⟩:=x
   obtain ⟨n',vs',cs'⟩:=y
   simp only [DE.enc] at he he'
   have hv:=Mk vs vs' σ
   have hne:¬(⟨n,vs,cs⟩:DE)=⟨n',vs',cs'⟩→(⟨ds,fs⟩:Pg)≠⟨ds',fs'⟩:=fun h e=>Mr hx hy h (eQ.1 e).1
   (repeat' (first|refine Run.ct rfl ?_|((first|refine Run.reg mixed ?_|refine Run.AJ ?_|(refine AP rfl (fun h=>?_) (fun h=>?_)<;>try (cases h;done)))<;>try simp -implicitDefEqProofs only [Bk hlt,he,he',AF,go_sem])|(refine ⟨fun h=>?_,fun h=>?_⟩<;>first|(cases h;done)|try simp only [h])|fail))
   refine Run.SZ mixed ?_
   simp -implicitDefEqProofs only [Bk hlt,he,he',AF,and_self,go_sem]
   by_cases hcc:n=n'
   rotate_left
   · rw [BF (hne fun e=>hcc (Zk.1 e).1)]
     (repeat' (first|refine Run.ct rfl ?_|((first|refine Run.reg mixed ?_|refine Run.AJ ?_|refine Run.A9 Dj (AM.le_refl _) ?_|(refine AP rfl (fun h=>?_) (fun h=>?_)<;>try (cases h;done)))<;>try simp -implicitDefEqProofs only [BS,MD hcc,go_sem])|(refine ⟨fun h=>?_,fun h=>?_⟩<;>first|(cases h;done)|try simp only [h])|fail))
   subst hcc
   by_cases hvv:vs=vs'
   rotate_left
   · rw [BF (hne fun e=>hvv (Zk.1 e).2.1)]
     rw [BF hvv] at hv
     (repeat' (first|refine Run.ct rfl ?_|((first|refine Run.reg mixed ?_|refine Run.AJ ?_|refine Run.A9 Dj (AM.le_refl _) ?_|refine AI.det (hv) ?_|(refine AP rfl (fun h=>?_) (fun h=>?_)<;>try (cases h;done)))<;>try simp -implicitDefEqProofs only [BS,beq_self_eq_true,go_sem])|(refine ⟨fun h=>?_,fun h=>?_⟩<;>first|(cases h;done)|try simp only [h])|fail))
   subst hvv
   rw [MM] at hv
   by_cases hl:cs.length=cs'.length
   rotate_left
   · rw [BF (hne fun e=>I4 hl (Zk.1 e).2.2)]
     (repeat' (first|refine Run.ct rfl ?_|((first|refine Run.reg mixed ?_|refine Run.AJ ?_|refine Run.A9 Dj (AM.le_refl _) ?_|refine AI.det (hv) ?_|(refine AP rfl (fun h=>?_) (fun h=>?_)<;>try (cases h;done)))<;>try simp -implicitDefEqProofs only [BS,beq_self_eq_true,AF,I3 hl,go_sem])|(refine ⟨fun h=>?_,fun h=>?_⟩<;>first|(cases h;done)|try simp only [h])|fail))
   (repeat' (first|refine Run.ct rfl ?_|((first|refine Run.reg mixed ?_|refine Run.AJ ?_|refine AI.det (hv) ?_|(refine AP rfl (fun h=>?_) (fun h=>?_)<;>try (cases h;done)))<;>try simp -implicitDefEqProofs only [BS,beq_self_eq_true,bne_self_eq_false,AF,hl,go_sem])|(refine ⟨fun h=>?_,fun h=>?_⟩<;>first|(cases h;done)|try simp only [h])|fail))
   refine Run.cell 6 2 rfl rfl (fun hb2=>?_)
   have hb2:cs.length≤9223372036854775807:=by simpa [AV.Dz] using hb2
   refine Run.Bl ?_
   refine Run.Bm ((fun (a2:AV) (a3:AV) (a5:AV) (a6:AV) (a7:AV)=>fun (k:Nat)=>put 2 a2 (put 3 a3 (put 5 a5 (put 6 a6 (put 7 a7 (put 8 (.d (.int .i64 k)) U)))))) _ _ _ _ _) (fun _=>eqD ds fs ds' fs' n vs cs cs') (fun _=>σ) (fun k=>k≤cs.length∧cs.take k=cs'.take k) (fun k=>cs.length - k) ?_ 0 ⟨by simp,by simp⟩
   rintro k ⟨hk,htk⟩ ihk
   by_cases hltk:k < cs.length
   · obtain ⟨c,hcx⟩:=B4 hltk
     obtain ⟨d,hdx⟩:=B4 (show k < cs'.length by omega)
     have hce:=BK (enc:=CE.enc) hcx
     have hde:=BK (enc:=CE.enc) hdx
     have hwk:IntKind.i64.wrap ((k:Int)+1)=((k+1:Nat):Int):=by rw [Au (by omega) (by omega)];omega
     obtain ⟨m,l⟩:=c
     obtain ⟨m',l'⟩:=d
     simp only [CE.enc] at hce hde
     have hnc:¬(⟨m,l⟩:CE)=⟨m',l'⟩→(⟨ds,fs⟩:Pg)≠⟨ds',fs'⟩:=fun h=>hne fun e=>Mr hcx hdx h (Zk.1 e).2.2
     by_cases hm:m=m'
     rotate_left
     · rw [BF (hnc fun e=>hm (jT.1 e).1)]
       (repeat' (first|refine Run.ct rfl ?_|((first|refine Run.reg mixed ?_|refine Run.AJ ?_|refine Run.A9 Dj (AM.le_refl _) ?_|(refine AP rfl (fun h=>?_) (fun h=>?_)<;>try (cases h;done)))<;>try simp -implicitDefEqProofs only [Bk hltk,hce,hde,AF,BS,MD hm,go_sem])|(refine ⟨fun h=>?_,fun h=>?_⟩<;>first|(cases h;done)|try simp only [h])|fail))
     subst hm
     by_cases hll:l.length=l'.length
     rotate_left
     · rw [BF (hnc fun e=>I4 hll (jT.1 e).2)]
       (repeat' (first|refine Run.ct rfl ?_|((first|refine Run.reg mixed ?_|refine Run.AJ ?_|refine Run.A9 Dj (AM.le_refl _) ?_|(refine AP rfl (fun h=>?_) (fun h=>?_)<;>try (cases h;done)))<;>try simp -implicitDefEqProofs only [Bk hltk,hce,hde,AF,BS,beq_self_eq_true,I3 hll,go_sem])|(refine ⟨fun h=>?_,fun h=>?_⟩<;>first|(cases h;done)|try simp only [h])|fail))
     (repeat' (first|refine Run.ct rfl ?_|((first|refine Run.reg mixed ?_|refine Run.AJ ?_|(refine AP rfl (fun h=>?_) (fun h=>?_)<;>try (cases h;done)))<;>try simp -implicitDefEqProofs only [Bk hltk,hce,hde,AF,BS,beq_self_eq_true,bne_self_eq_false,hll,go_sem])|(refine ⟨fun h=>?_,fun h=>?_⟩<;>first|(cases h;done)|try simp only [h])|fail))
     refine Run.Bl ?_
     refine Run.Bm ((fun (a2:AV) (a3:AV) (a5:AV) (a6:AV) (a7:AV) (a8:AV)=>fun (z:Nat)=>put 2 a2 (put 3 a3 (put 5 a5 (put 6 a6 (put 7 a7 (put 8 a8 (put 9 (.d (.int .i64 z)) U))))))) _ _ _ _ _ _) (fun _=>eqD ds fs ds' fs' n vs cs cs') (fun _=>σ) (fun z=>z≤l.length∧l.take z=l'.take z) (fun z=>l.length - z) ?_ 0 ⟨by simp,by simp⟩
     rintro z ⟨hz,htz⟩ ihz
     by_cases hltz:z < l.length
     · obtain ⟨t,htx⟩:=B4 hltz
       obtain ⟨w,hwx⟩:=B4 (show z < l'.length by omega)
       have hte:=BK (enc:=TE.enc) htx
       have hwe:=BK (enc:=TE.enc) hwx
       have hc:=WZ t.size t w (A8 _) σ
       have hls:=hsz _ (A6 hx) _ (A6 hcx)
       simp only at hls
       have hwz:IntKind.i64.wrap ((z:Int)+1)=((z+1:Nat):Int):=by rw [Au (by omega) (by omega)];omega
       by_cases hxy:t=w
       · subst hxy
         rw [MM] at hc
         obtain ⟨k0,n0,l0⟩:=t
         simp only [teA,TE.A2,AD,AG] at hte hwe hc
         (repeat' (first|refine Run.ct rfl ?_|((first|refine Run.reg mixed ?_|refine Run.AJ ?_|refine AI.det (hc) ?_|(refine AP rfl (fun h=>?_) (fun h=>?_)<;>try (cases h;done)))<;>try simp -implicitDefEqProofs only [Bk hltz,Bk hltk,hce,hde,hte,hwe,AF,hwz,go_sem])|(refine ⟨fun h=>?_,fun h=>?_⟩<;>first|(cases h;done)|try simp only [h])|fail))
         exact ihz (z+1) ⟨by omega,Dp htz htx hwx⟩ (by omega)
       · rw [BF (hnc fun e=>Mr htx hwx hxy (jT.1 e).2)]
         rw [BF hxy] at hc
         obtain ⟨k0,n0,l0⟩:=t
         obtain ⟨k1,n1,l1⟩:=w
         simp only [teA,TE.A2,AD,AG] at hte hwe hc
         (repeat' (first|refine Run.ct rfl ?_|((first|refine Run.reg mixed ?_|refine Run.AJ ?_|refine Run.A9 Dj (AM.le_refl _) ?_|refine AI.det (hc) ?_|(refine AP rfl (fun h=>?_) (fun h=>?_)<;>try (cases h;done)))<;>try simp -implicitDefEqProofs only [Bk hltz,Bk hltk,hce,hde,hte,hwe,AF,go_sem])|(refine ⟨fun h=>?_,fun h=>?_⟩<;>first|(cases h;done)|try simp only [h])|fail))
     · have hle:=Ep htz hll hltz
       subst hle
       (repeat' (first|refine Run.ct rfl ?_|((first|refine Run.reg mixed ?_|refine Run.AJ ?_|(refine AP rfl (fun h=>?_) (fun h=>?_)<;>try (cases h;done)))<;>try simp -implicitDefEqProofs only [HQ hltz,Bk hltk,hce,hde,AF,hwk,go_sem])|(refine ⟨fun h=>?_,fun h=>?_⟩<;>first|(cases h;done)|try simp only [h])|fail))
       exact ihk (k+1) ⟨by omega,Dp htk hcx hdx⟩ (by omega)
   · have hce:=Ep htk hl hltk
     subst hce
     (repeat' (first|refine Run.ct rfl ?_|((first|refine Run.reg mixed ?_|refine Run.AJ ?_|(refine AP rfl (fun h=>?_) (fun h=>?_)<;>try (cases h;done)))<;>try simp -implicitDefEqProofs only [HQ hltk,AF,hw1,go_sem])|(refine ⟨fun h=>?_,fun h=>?_⟩<;>first|(cases h;done)|try simp only [h])|fail))
     exact ih (i+1) ⟨by omega,Dp ht hx hy⟩ (by omega)
 have hde:=Ep ht hd hlt
 subst hde
 (repeat' (first|refine Run.ct rfl ?_|((first|refine Run.reg mixed ?_|refine Run.AJ ?_|(refine AP rfl (fun h=>?_) (fun h=>?_)<;>try (cases h;done)))<;>try simp -implicitDefEqProofs only [HQ hlt,AF,go_sem])|(refine ⟨fun h=>?_,fun h=>?_⟩<;>first|(cases h;done)|try simp only [h])|fail))
 refine Run.Bl ?_
 refine Run.Bm ((fun (a2:AV) (a3:AV)=>fun (i:Nat)=>put 2 a2 (put 3 a3 (put 10 (.d (.int .i64 i)) U))) _ _) (fun _=>eqL ds fs ds fs') (fun _=>σ) (fun i=>i≤fs.length∧fs.take i=fs'.take i) (fun i=>fs.length - i) ?_ 0 ⟨by simp,by simp⟩
 rintro g ⟨hg,htg⟩ ihg
 by_cases hltg:g < fs.length
 · obtain ⟨x,hx⟩:=B4 hltg
   obtain ⟨y,hy⟩:=B4 (show g < fs'.length by omega)
   have he:=BK (enc:=FE.enc) hx
   have he':=BK (enc:=FE.enc) hy
   have hw1:IntKind.i64.wrap ((g:Int)+1)=((g+1:Nat):Int):=by rw [Au (by omega) (by omega)];omega
   obtain ⟨n,ps,b⟩:=x
   obtain ⟨n',ps',b'⟩:=y
   have hv:=Mk ps ps' σ
   have hc:=Rg b.size b b' (A8 _) σ
   have hne:¬(⟨n,ps,b⟩:FE)=⟨n',ps',b'⟩→(⟨ds,fs⟩:Pg)≠⟨ds,fs'⟩:=fun h e=>Mr hx hy h (eQ.1 e).2
   by_cases hcc:n=n'
   rotate_left
   · rw [BF (hne fun e=>hcc (dN.1 e).1)]
     obtain ⟨o0,n0,u0,ns0,ks0,al0⟩:=b
     obtain ⟨o1,n1,u1,ns1,ks1,al1⟩:=b'
     simp only [FE.enc,Ex.A2,AX,A0] at he he'
     (repeat' (first|refine Run.ct rfl ?_|((first|refine Run.reg mixed ?_|refine Run.AJ ?_|refine Run.A9 Dj (AM.le_refl _) ?_|(refine AP rfl (fun h=>?_) (fun h=>?_)<;>try (cases h;done)))<;>try simp -implicitDefEqProofs only [Bk hltg,he,he',AF,BS,MD hcc,go_sem])|(refine ⟨fun h=>?_,fun h=>?_⟩<;>first|(cases h;done)|try simp only [h])|fail))
   subst hcc
   by_cases hvv:ps=ps'
   rotate_left
   · rw [BF (hne fun e=>hvv (dN.1 e).2.1)]
     rw [BF hvv] at hv
     obtain ⟨o0,n0,u0,ns0,ks0,al0⟩:=b
     obtain ⟨o1,n1,u1,ns1,ks1,al1⟩:=b'
     simp only [FE.enc,Ex.A2,AX,A0] at he he'
     (repeat' (first|refine Run.ct rfl ?_|((first|refine Run.reg mixed ?_|refine Run.AJ ?_|refine Run.A9 Dj (AM.le_refl _) ?_|refine AI.det (hv) ?_|(refine AP rfl (fun h=>?_) (fun h=>?_)<;>try (cases h;done)))<;>try simp -implicitDefEqProofs only [Bk hltg,he,he',AF,BS,beq_self_eq_true,go_sem])|(refine ⟨fun h=>?_,fun h=>?_⟩<;>first|(cases h;done)|try simp only [h])|fail))
   subst hvv
   rw [MM] at hv
   by_cases hxy:b=b'
   · subst hxy
     rw [MM] at hc
     obtain ⟨o0,n0,u0,ns0,ks0,al0⟩:=b
     simp only [exA,FE.enc,Ex.A2,AX,A0,AD,AG] at he he' hc
     (repeat' (first|refine Run.ct rfl ?_|((first|refine Run.reg mixed ?_|refine Run.AJ ?_|refine AI.det (hv) ?_|refine AI.det (hc) ?_|(refine AP rfl (fun h=>?_) (fun h=>?_)<;>try (cases h;done)))<;>try simp -implicitDefEqProofs only [Bk hltg,he,he',hw1,AF,BS,beq_self_eq_true,go_sem])|(refine ⟨fun h=>?_,fun h=>?_⟩<;>first|(cases h;done)|try simp only [h])|fail))
     exact ihg (g+1) ⟨by omega,Dp htg hx hy⟩ (by omega)
   · rw [BF (hne fun e=>hxy (dN.1 e).2.2)]
     rw [BF hxy] at hc
     obtain ⟨o0,n0,u0,ns0,ks0,al0⟩:=b
     obtain ⟨o1,n1,u1,ns1,ks1,al1⟩:=b'
     simp only [exA,FE.enc,Ex.A2,AX,A0,AD,AG] at he he' hc
     (repeat' (first|refine Run.ct rfl ?_|((first|refine Run.reg mixed ?_|refine Run.AJ ?_|refine Run.A9 Dj (AM.le_refl _) ?_|refine AI.det (hv) ?_|refine AI.det (hc) ?_|(refine AP rfl (fun h=>?_) (fun h=>?_)<;>try (cases h;done)))<;>try simp -implicitDefEqProofs only [Bk hltg,he,he',AF,BS,beq_self_eq_true,go_sem])|(refine ⟨fun h=>?_,fun h=>?_⟩<;>first|(cases h;done)|try simp only [h])|fail))
 · have hfe:=Ep htg hf hltg
   subst hfe
   rw [MM]
   (repeat' (first|refine Run.ct rfl ?_|((first|refine Run.reg mixed ?_|refine Run.AJ ?_|refine Run.A9 Dj (AM.le_refl _) ?_|(refine AP rfl (fun h=>?_) (fun h=>?_)<;>try (cases h;done)))<;>try simp -implicitDefEqProofs only [HQ hltg,AF,go_sem])|(refine ⟨fun h=>?_,fun h=>?_⟩<;>first|(cases h;done)|try simp only [h])|fail))
end Go.Ab
