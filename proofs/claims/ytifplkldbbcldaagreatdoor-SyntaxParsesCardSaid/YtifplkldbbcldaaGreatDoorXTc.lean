/- Equality of trees, the reference's. Equality of expressions, the reference's. Equality of programs, the reference's. The law SyntaxBack over abstract values. The law SyntaxTexts over abstract values. Conditions: none. -/
import Derived.Test.YtifplkldbbcldaaGreatDoorXRh
set_option linter.unusedSimpArgs false
set_option linter.unusedVariables false
set_option maxRecDepth 4000
set_option maxHeartbeats 8000000
open Classical renaming propDecidable→ZE
open Option.some renaming inj→DK
open List renaming take_of_length_le→A8,length_map→AJ,map_cons→AB,map_nil→AE,mem_of_getElem?→Aa,all_eq_true→A7
open Nat renaming le_refl→A4
open Bool renaming and_eq_true→AR
namespace Go.Ab
open Go.Proofs
noncomputable def eqB {α:Type} (a b:α):Bool:=@decide (a=b) (ZE _)
theorem uJ {α:Type} {a b:α} (h:a=b):eqB a b=true:=@decide_eq_true _ (ZE _) h
theorem EB {α:Type} {a b:α} (h:a≠b):eqB a b=false:=@decide_eq_false _ (ZE _) h
theorem RY {α:Type} (a:α):eqB a a=true:=uJ rfl
theorem TB {α:Type} {l m:List α} (h:l.length≠m.length):l≠m:=fun e=>h (by rw [e])
theorem Xg {α:Type} {l m:List α} {i:Nat} {x y:α} (hx:l[i]?=some x) (hy:m[i]?=some y) (h:x≠y):l≠m:=fun e=>h (by rw [e,hy] at hx;exact (DK hx).symm)
theorem JB {α:Type} {l m:List α} {i:Nat} {x:α} (h:l.take i=m.take i) (hx:l[i]?=some x) (hy:m[i]?=some x):l.take (i+1)=m.take (i+1):=by rw [My hx,My hy,h]
theorem Lr {α:Type} {l m:List α} {i:Nat} (h:l.take i=m.take i) (hl:l.length=m.length) (hi:¬i < l.length):l=m:=by
 rwa [A8 (by omega),A8 (by omega)] at h
theorem AC6 {a b:Nat} (h:a≠b):((a:Int)==(b:Int))=false:=Ch (by omega)
theorem TA {a b:Nat} (h:a≠b):((a:Int) != (b:Int))=true:=by rw [bne,AC6 h];rfl
theorem mB {a b:Int} (h:a≠b):(a != b)=true:=by rw [bne,Ch h];rfl
theorem X5 {a b:List UInt8} (h:¬a=b):(a==b)=false:=by simpa using h
theorem ADR {a b:Str} (h:a≠b):(a==b)=false:=by simpa using h
theorem Mv (l m:List Str) (σ:AK):AP Tryz.prog 36 [.d (.sl (l.map Br)),.d (.sl (m.map Br))] σ (fun v σ'=>v= .d (.bool (eqB l m))∧σ'=σ):=by
 refine Zk (by simp) ?_
 rw [BH]
 refine Run.slot 0 (fun hb0=>?_)
 have hb0:l.length≤9223372036854775807:=by simpa [Jg,AV.Fc] using hb0
 by_cases hl:l.length=m.length
 · (repeat' (first|refine ctQ rfl ?_|((first|refine rgQ mxQ ?_|refine cdQ ?_)<;>try simp -implicitDefEqProofs only [AJ,hl,bne_self_eq_false,go_sem])|fail))
   refine Run.BU ?_
   refine Run.BZ ((fun (a0:AV) (a1:AV)=>fun (i:Nat)=>put 0 a0 (put 1 a1 (put 5 (.d (.int .i64 i)) U))) _ _) (fun _=>E) (fun _=>σ) (fun i=>i≤l.length∧l.take i=m.take i) (fun i=>l.length - i) ?_ 0 ⟨by simp,by simp⟩
   rintro i ⟨hi,ht⟩ ih
   by_cases hlt:i < l.length
   · obtain ⟨x,hx⟩:=CF hlt
     obtain ⟨y,hy⟩:=CF (show i < m.length by omega)
     have he:=Bq (enc:=Br) hx
     have he':=Bq (enc:=Br) hy
     simp only [Br] at he he'
     have hw1:IntKind.i64.wrap ((i:Int)+1)=((i+1:Nat):Int):=by rw [BF (by omega) (by omega)];omega
     by_cases hxy:x=y
     · subst hxy
       (repeat' (first|refine ctQ rfl ?_|((first|refine rgQ mxQ ?_|refine cdQ ?_)<;>try simp -implicitDefEqProofs only [B1 hlt,he,he',hw1,beq_self_eq_true,B0,AJ,go_sem])|fail))
       exact ih (i+1) ⟨by omega,JB ht hx hy⟩ (by omega)
     · rw [EB (Xg hx hy hxy)]
       (repeat' (first|refine ctQ rfl ?_|((first|refine rgQ mxQ ?_|refine cdQ ?_|refine Run.A2 J2 (AK.le_refl _) ?_)<;>try simp -implicitDefEqProofs only [B1 hlt,he,he',ADR hxy,B0,AJ,go_sem])|fail))
   · rw [uJ (Lr ht hl hlt)]
     (repeat' (first|refine ctQ rfl ?_|((first|refine rgQ mxQ ?_|refine cdQ ?_|refine Run.A2 J2 (AK.le_refl _) ?_)<;>try simp -implicitDefEqProofs only [Ff hlt,AJ,go_sem])|fail))
 · rw [EB (TB hl)]
   (repeat' (first|refine ctQ rfl ?_|((first|refine rgQ mxQ ?_|refine cdQ ?_|refine Run.A2 J2 (AK.le_refl _) ?_)<;>try simp -implicitDefEqProofs only [AJ,TA hl,go_sem])|fail))
theorem Xf:∀(N:Nat) (t u:TE),t.size≤N→∀σ,AP Tryz.prog 37 [teA t,teA u] σ (fun v σ'=>v= .d (.bool (eqB t u))∧σ'=σ)
 |0,t,u,h,_=>by have:=TE.size_pos t;omega
 |N+1,.mk k n l,.mk k' n' m,h,σ=>by
  rw [TE.size] at h
  have ihN:=fun x hx u=>Xf N x u (by have:=TE.VC (l:=l) (t:=x) hx;omega) σ
  refine cW (by simp) ?_
  rw [BH]
  simp only [teA,TE.AS,AB,AE]
  by_cases hk:k=k'
  · subst hk
    by_cases hn:n=n'
    · subst hn
      by_cases hl:l.length=m.length
      · (repeat' (first|refine ctQ rfl ?_|((first|refine rgQ mxQ ?_|refine cdQ ?_)<;>try simp -implicitDefEqProofs only [AJ,hl,beq_self_eq_true,bne_self_eq_false,B0,go_sem])|fail))
        refine Run.cell 2 2 rfl rfl (fun hb0=>?_)
        have hb0:l.length≤9223372036854775807:=by simpa [AV.Fc] using hb0
        refine Run.BU ?_
        refine Run.BZ ((fun (a2:AV) (a3:AV)=>fun (i:Nat)=>put 2 a2 (put 3 a3 (put 5 (.d (.int .i64 i)) U))) _ _) (fun _=>Aq 2 [.d (.int .i64 k),.d (.str n),.d (.sl (l.map TE.enc))] (Aq 3 [.d (.int .i64 k),.d (.str n),.d (.sl (m.map TE.enc))] E)) (fun _=>σ) (fun i=>i≤l.length∧l.take i=m.take i) (fun i=>l.length - i) ?_ 0 ⟨by simp,by simp⟩
        rintro i ⟨hi,ht⟩ ih
        by_cases hlt:i < l.length
        · obtain ⟨x,hx⟩:=CF hlt
          obtain ⟨y,hy⟩:=CF (show i < m.length by omega)
          have he:=Bq (enc:=TE.enc) hx
          have he':=Bq (enc:=TE.enc) hy
          have hw1:IntKind.i64.wrap ((i:Int)+1)=((i+1:Nat):Int):=by rw [BF (by omega) (by omega)];omega
          have hc:=ihN x (Aa hx) y
          by_cases hxy:x=y
          · subst hxy
            rw [RY] at hc
            obtain ⟨k0,n0,l0⟩:=x
            simp only [teA,TE.AS,AB,AE] at he he' hc
            (repeat' (first|refine ctQ rfl ?_|((first|refine rgQ mxQ ?_|refine cdQ ?_|refine AD.det (hc) ?_)<;>try simp -implicitDefEqProofs only [B1 hlt,he,he',hw1,AJ,go_sem])|fail))
            exact ih (i+1) ⟨by omega,JB ht hx hy⟩ (by omega)
          · rw [EB (show TE.mk k n l≠TE.mk k n m from fun e=>Xg hx hy hxy (by injection e))]
            rw [EB hxy] at hc
            obtain ⟨k0,n0,l0⟩:=x
            obtain ⟨k1,n1,l1⟩:=y
            simp only [teA,TE.AS,AB,AE] at he he' hc
            (repeat' (first|refine ctQ rfl ?_|((first|refine rgQ mxQ ?_|refine cdQ ?_|refine Run.A2 Gu (AK.le_refl _) ?_|refine AD.det (hc) ?_)<;>try simp -implicitDefEqProofs only [B1 hlt,he,he',AJ,go_sem])|fail))
        · rw [uJ (show TE.mk k n l=TE.mk k n m by rw [Lr ht hl hlt])]
          (repeat' (first|refine ctQ rfl ?_|((first|refine rgQ mxQ ?_|refine cdQ ?_|refine Run.A2 Gu (AK.le_refl _) ?_)<;>try simp -implicitDefEqProofs only [Ff hlt,AJ,go_sem])|fail))
      · rw [EB (show TE.mk k n l≠TE.mk k n m from fun e=>TB hl (by injection e))]
        (repeat' (first|refine ctQ rfl ?_|((first|refine rgQ mxQ ?_|refine cdQ ?_|refine Run.A2 Gu (AK.le_refl _) ?_)<;>try simp -implicitDefEqProofs only [AJ,TA hl,beq_self_eq_true,bne_self_eq_false,B0,go_sem])|fail))
    · rw [EB (show TE.mk k n l≠TE.mk k n' m from fun e=>hn (by injection e))]
      (repeat' (first|refine ctQ rfl ?_|((first|refine rgQ mxQ ?_|refine cdQ ?_|refine Run.A2 Gu (AK.le_refl _) ?_)<;>try simp -implicitDefEqProofs only [X5 hn,B0,beq_self_eq_true,bne_self_eq_false,B0,go_sem])|fail))
  · rw [EB (show TE.mk k n l≠TE.mk k' n' m from fun e=>hk (by injection e))]
    (repeat' (first|refine ctQ rfl ?_|((first|refine rgQ mxQ ?_|refine cdQ ?_|refine Run.A2 Gu (AK.le_refl _) ?_)<;>try simp -implicitDefEqProofs only [mB hk,go_sem])|fail))
end Go.Ab
namespace Go.Ab
open Go.Proofs
set_option maxHeartbeats 8000000 in
theorem SP:∀(N:Nat) (t u:Ex),t.size≤N→∀σ,AP Tryz.prog 38 [exA t,exA u] σ (fun v σ'=>v= .d (.bool (eqB t u))∧σ'=σ)
 |0,t,u,h,_=>by have:=Ex.size_pos t;omega
 |N+1,.mk o n u ns ks al,.mk o' n' u' ns' ks' al',h,σ=>by
  rw [Ex.size] at h
  have ihN:=fun x hx u=>SP N x u (by have:=Ex.VC (l:=ks) (t:=x) hx;omega) σ
  have ihA:∀c vs b,Al.mk c vs b∈al→∀u,AP Tryz.prog 38 [exA b,exA u] σ (fun v σ'=>v= .d (.bool (eqB b u))∧σ'=σ):=fun c vs b hx u=>SP N b u (by have:=Al.VC (l:=al) hx;rw [Al.size] at this;omega) σ
  have hsn:=Mv ns ns' σ
  refine cV (by simp) ?_
  rw [BH]
  simp only [exA,Ex.AS,AB,AE]
  by_cases ho:o=o'
  rotate_left
  · rw [EB (fun e=>ho (by injection e))]
    (repeat' (first|refine ctQ rfl ?_|((first|refine rgQ mxQ ?_|refine cdQ ?_|refine Run.A2 Cc (AK.le_refl _) ?_)<;>try simp -implicitDefEqProofs only [mB ho,go_sem])|fail))
  subst ho
  by_cases hn:n=n'
  rotate_left
  · rw [EB (fun e=>hn (by injection e))]
    (repeat' (first|refine ctQ rfl ?_|((first|refine rgQ mxQ ?_|refine cdQ ?_|refine Run.A2 Cc (AK.le_refl _) ?_)<;>try simp -implicitDefEqProofs only [X5 hn,B0,bne_self_eq_false,go_sem])|fail))
  subst hn
  by_cases hu:u=u'
  rotate_left
  · rw [EB (fun e=>hu (by injection e))]
    (repeat' (first|refine ctQ rfl ?_|((first|refine rgQ mxQ ?_|refine cdQ ?_|refine Run.A2 Cc (AK.le_refl _) ?_)<;>try simp -implicitDefEqProofs only [mB hu,beq_self_eq_true,B0,bne_self_eq_false,go_sem])|fail))
  subst hu
  by_cases hs:ns=ns'
  rotate_left
  · rw [EB hs] at hsn
    rw [EB (fun e=>hs (by injection e))]
    (repeat' (first|refine ctQ rfl ?_|((first|refine rgQ mxQ ?_|refine cdQ ?_|refine Run.A2 Cc (AK.le_refl _) ?_|refine AD.det (hsn) ?_)<;>try simp -implicitDefEqProofs only [beq_self_eq_true,B0,bne_self_eq_false,go_sem])|fail))
  subst hs
  rw [RY] at hsn
  by_cases hk:ks.length=ks'.length
  rotate_left
  · rw [EB (fun e=>TB hk (by injection e))]
    (repeat' (first|refine ctQ rfl ?_|((first|refine rgQ mxQ ?_|refine cdQ ?_|refine Run.A2 Cc (AK.le_refl _) ?_|refine AD.det (hsn) ?_)<;>try simp -implicitDefEqProofs only [beq_self_eq_true,B0,bne_self_eq_false,TA hk,AJ,go_sem])|fail))
  by_cases ha:al.length=al'.length
  rotate_left
  · rw [EB (fun e=>TB ha (by injection e))]
    (repeat' (first|refine ctQ rfl ?_|((first|refine rgQ mxQ ?_|refine cdQ ?_|refine Run.A2 Cc (AK.le_refl _) ?_|refine AD.det (hsn) ?_)<;>try simp -implicitDefEqProofs only [beq_self_eq_true,B0,bne_self_eq_false,TA ha,AJ,hk,go_sem])|fail))
  (repeat' (first|refine ctQ rfl ?_|((first|refine rgQ mxQ ?_|refine cdQ ?_|refine AD.det (hsn) ?_)<;>try simp -implicitDefEqProofs only [beq_self_eq_true,B0,bne_self_eq_false,AJ,hk,ha,go_sem])|fail))
  refine Run.cell 2 4 rfl rfl (fun hb0=>?_)
  refine Run.cell 2 5 rfl rfl (fun hb1=>?_)
  have hb0:ks.length≤9223372036854775807:=by simpa [AV.Fc] using hb0
  have hb1:al.length≤9223372036854775807:=by simpa [AV.Fc] using hb1
  refine Run.BU ?_
  refine Run.BZ ((fun (a2:AV) (a3:AV)=>fun (i:Nat)=>put 2 a2 (put 3 a3 (put 5 (.d (.int .i64 i)) U))) _ _) (fun _=>Aq 2 [.d (.int .i64 o),.d (.str n),.d (.int .i64 u),.d (.sl (ns.map Br)),.d (.sl (ks.map Ex.enc)),.d (.sl (al.map Al.enc))] (Aq 3 [.d (.int .i64 o),.d (.str n),.d (.int .i64 u),.d (.sl (ns.map Br)),.d (.sl (ks'.map Ex.enc)),.d (.sl (al'.map Al.enc))] E)) (fun _=>σ) (fun i=>i≤ks.length∧ks.take i=ks'.take i) (fun i=>ks.length - i) ?_ 0 ⟨by simp,by simp⟩
  rintro i ⟨hi,ht⟩ ih
  by_cases hlt:i < ks.length
  · obtain ⟨x,hx⟩:=CF hlt
    obtain ⟨y,hy⟩:=CF (show i < ks'.length by omega)
    have he:=Bq (enc:=Ex.enc) hx
    have he':=Bq (enc:=Ex.enc) hy
    have hw1:IntKind.i64.wrap ((i:Int)+1)=((i+1:Nat):Int):=by rw [BF (by omega) (by omega)];omega
    have hc:=ihN x (Aa hx) y
    by_cases hxy:x=y
    · subst hxy
      rw [RY] at hc
      obtain ⟨o0,n0,u0,ns0,ks0,al0⟩:=x
      simp only [exA,Ex.AS,AB,AE] at he he' hc
      (repeat' (first|refine ctQ rfl ?_|((first|refine rgQ mxQ ?_|refine cdQ ?_|refine AD.det (hc) ?_)<;>try simp -implicitDefEqProofs only [B1 hlt,he,he',hw1,AJ,go_sem])|fail))
      exact ih (i+1) ⟨by omega,JB ht hx hy⟩ (by omega)
    · rw [EB (fun e=>Xg hx hy hxy (by injection e))]
      rw [EB hxy] at hc
      obtain ⟨o0,n0,u0,ns0,ks0,al0⟩:=x
      obtain ⟨o1,n1,u1,ns1,ks1,al1⟩:=y
      simp only [exA,Ex.AS,AB,AE] at he he' hc
      (repeat' (first|refine ctQ rfl ?_|((first|refine rgQ mxQ ?_|refine cdQ ?_|refine Run.A2 Cc (AK.le_refl _) ?_|refine AD.det (hc) ?_)<;>try simp -implicitDefEqProofs only [B1 hlt,he,he',AJ,go_sem])|fail))
  have hke:=Lr ht hk hlt
  subst hke
  (repeat' (first|refine ctQ rfl ?_|((first|refine rgQ mxQ ?_|refine cdQ ?_)<;>try simp -implicitDefEqProofs only [Ff hlt,AJ,go_sem])|fail))
  refine Run.BU ?_
  refine Run.BZ ((fun (a2:AV) (a3:AV)=>fun (i:Nat)=>put 2 a2 (put 3 a3 (put 6 (.d (.int .i64 i)) U))) _ _) (fun _=>Aq 2 [.d (.int .i64 o),.d (.str n),.d (.int .i64 u),.d (.sl (ns.map Br)),.d (.sl (ks.map Ex.enc)),.d (.sl (al.map Al.enc))] (Aq 3 [.d (.int .i64 o),.d (.str n),.d (.int .i64 u),.d (.sl (ns.map Br)),.d (.sl (ks.map Ex.enc)),.d (.sl (al'.map Al.enc))] E)) (fun _=>σ) (fun i=>i≤al.length∧al.take i=al'.take i) (fun i=>al.length - i) ?_ 0 ⟨by simp,by simp⟩
  rintro q ⟨hq,htq⟩ ihq
  by_cases hltq:q < al.length
  · obtain ⟨x,hx⟩:=CF hltq
    obtain ⟨y,hy⟩:=CF (show q < al'.length by omega)
    have he:=Bq (enc:=Al.enc) hx
    have he':=Bq (enc:=Al.enc) hy
    have hw1:IntKind.i64.wrap ((q:Int)+1)=((q+1:Nat):Int):=by rw [BF (by omega) (by omega)];omega
    obtain ⟨c,vs,b⟩:=x
    obtain ⟨c',vs',b'⟩:=y
    have hc:=ihA c vs b (Aa hx) b'
    have hv:=Mv vs vs' σ
    have hne:¬Al.mk c vs b= .mk c' vs' b'→Ex.mk o n u ns ks al≠.mk o n u ns ks al':=fun h e=>Xg hx hy h (by injection e)
    by_cases hcc:c=c'
    rotate_left
    · rw [EB (hne fun e=>hcc (by injection e))]
      obtain ⟨o0,n0,u0,ns0,ks0,al0⟩:=b
      obtain ⟨o1,n1,u1,ns1,ks1,al1⟩:=b'
      simp only [Al.AS] at he he'
      (repeat' (first|refine ctQ rfl ?_|((first|refine rgQ mxQ ?_|refine cdQ ?_|refine Run.A2 Cc (AK.le_refl _) ?_)<;>try simp -implicitDefEqProofs only [B1 hltq,he,he',AJ,B0,X5 hcc,go_sem])|fail))
    subst hcc
    by_cases hvv:vs=vs'
    rotate_left
    · rw [EB (hne fun e=>hvv (by injection e))]
      rw [EB hvv] at hv
      obtain ⟨o0,n0,u0,ns0,ks0,al0⟩:=b
      obtain ⟨o1,n1,u1,ns1,ks1,al1⟩:=b'
      simp only [Al.AS] at he he'
      (repeat' (first|refine ctQ rfl ?_|((first|refine rgQ mxQ ?_|refine cdQ ?_|refine Run.A2 Cc (AK.le_refl _) ?_|refine AD.det (hv) ?_)<;>try simp -implicitDefEqProofs only [B1 hltq,he,he',AJ,B0,beq_self_eq_true,go_sem])|fail))
    subst hvv
    rw [RY] at hv
    by_cases hxy:b=b'
    · subst hxy
      rw [RY] at hc
      obtain ⟨o0,n0,u0,ns0,ks0,al0⟩:=b
      simp only [exA,Al.AS,Ex.AS,AB,AE] at he he' hc
      (repeat' (first|refine ctQ rfl ?_|((first|refine rgQ mxQ ?_|refine cdQ ?_|refine AD.det (hv) ?_|refine AD.det (hc) ?_)<;>try simp -implicitDefEqProofs only [B1 hltq,he,he',hw1,AJ,B0,beq_self_eq_true,go_sem])|fail))
      exact ihq (q+1) ⟨by omega,JB htq hx hy⟩ (by omega)
    · rw [EB (hne fun e=>hxy (by injection e))]
      rw [EB hxy] at hc
      obtain ⟨o0,n0,u0,ns0,ks0,al0⟩:=b
      obtain ⟨o1,n1,u1,ns1,ks1,al1⟩:=b'
      simp only [exA,Al.AS,Ex.AS,AB,AE] at he he' hc
      (repeat' (first|refine ctQ rfl ?_|((first|refine rgQ mxQ ?_|refine cdQ ?_|refine Run.A2 Cc (AK.le_refl _) ?_|refine AD.det (hv) ?_|refine AD.det (hc) ?_)<;>try simp -implicitDefEqProofs only [B1 hltq,he,he',AJ,B0,beq_self_eq_true,go_sem])|fail))
  · have hae:=Lr htq ha hltq
    subst hae
    rw [RY]
    (repeat' (first|refine ctQ rfl ?_|((first|refine rgQ mxQ ?_|refine cdQ ?_|refine Run.A2 Cc (AK.le_refl _) ?_)<;>try simp -implicitDefEqProofs only [Ff hltq,AJ,go_sem])|fail))
end Go.Ab
namespace Go.Ab
open Go.Proofs
theorem oP {n n':Str} {vs vs':List Str} {cs cs':List CE}:(⟨n,vs,cs⟩:DE)=⟨n',vs',cs'⟩↔n=n'∧vs=vs'∧cs=cs':=by simp
theorem tV {n n':Str} {l l':List TE}:(⟨n,l⟩:CE)=⟨n',l'⟩↔n=n'∧l=l':=by simp
theorem uM {n n':Str} {l l':List Str} {b b':Ex}:(⟨n,l,b⟩:FE)=⟨n',l',b'⟩↔n=n'∧l=l'∧b=b':=by simp
theorem pJ {a a':List DE} {b b':List FE}:(⟨a,b⟩:Pg)=⟨a',b'⟩↔a=a'∧b=b':=by simp
abbrev eqL (ds:List DE) (fs:List FE) (ds':List DE) (fs':List FE):Lm:=Aq 2 [.d (.sl (ds.map DE.enc)),.d (.sl (fs.map FE.enc))] (Aq 3 [.d (.sl (ds'.map DE.enc)),.d (.sl (fs'.map FE.enc))] E)
abbrev eqD (ds:List DE) (fs:List FE) (ds':List DE) (fs':List FE) (n:Str) (vs:List Str) (cs cs':List CE):Lm:=Aq 2 [.d (.sl (ds.map DE.enc)),.d (.sl (fs.map FE.enc))] (Aq 3 [.d (.sl (ds'.map DE.enc)),.d (.sl (fs'.map FE.enc))] (Aq 6 [.d (.str n),.d (.sl (vs.map Br)),.d (.sl (cs.map CE.enc))] (Aq 7 [.d (.str n),.d (.sl (vs.map Br)),.d (.sl (cs'.map CE.enc))] E)))
set_option maxHeartbeats 8000000 in
theorem jR (p q:Pg) (σ:AK) (hsz:∀d∈p.data,∀c∈d.cons,c.args.length≤1000000):AP Tryz.prog 14 [pgA p,pgA q] σ (fun v σ'=>v= .d (.bool (eqB p q))∧σ'=σ):=by
 refine lX (by simp) ?_
 rw [BH]
 obtain ⟨ds,fs⟩:=p
 obtain ⟨ds',fs'⟩:=q
 simp only [pgA,Pg.enc,AB,AE]
 by_cases hd:ds.length=ds'.length
 rotate_left
 · rw [EB (fun e=>TB hd (pJ.1 e).1)]
   (repeat' (first|refine ctQ rfl ?_|((first|refine rgQ mxQ ?_|refine cdQ ?_|refine Run.A2 Dt (AK.le_refl _) ?_)<;>try simp -implicitDefEqProofs only [AJ,TA hd,go_sem])|fail))
 by_cases hf:fs.length=fs'.length
 rotate_left
 · rw [EB (fun e=>TB hf (pJ.1 e).2)]
   (repeat' (first|refine ctQ rfl ?_|((first|refine rgQ mxQ ?_|refine cdQ ?_|refine Run.A2 Dt (AK.le_refl _) ?_)<;>try simp -implicitDefEqProofs only [AJ,hd,bne_self_eq_false,TA hf,go_sem])|fail))
 (repeat' (first|refine ctQ rfl ?_|((first|refine rgQ mxQ ?_|refine cdQ ?_)<;>try simp -implicitDefEqProofs only [AJ,hd,hf,bne_self_eq_false,go_sem])|fail))
 refine Run.cell 2 0 rfl rfl (fun hb0=>?_)
 refine Run.cell 2 1 rfl rfl (fun hb1=>?_)
 have hb0:ds.length≤9223372036854775807:=by simpa [AV.Fc] using hb0
 have hb1:fs.length≤9223372036854775807:=by simpa [AV.Fc] using hb1
 refine Run.BU ?_
 refine Run.BZ ((fun (a2:AV) (a3:AV)=>fun (i:Nat)=>put 2 a2 (put 3 a3 (put 5 (.d (.int .i64 i)) U))) _ _) (fun _=>eqL ds fs ds' fs') (fun _=>σ) (fun i=>i≤ds.length∧ds.take i=ds'.take i) (fun i=>ds.length - i) ?_ 0 ⟨by simp,by simp⟩
 rintro i ⟨hi,ht⟩ ih
 by_cases hlt:i < ds.length
 · obtain ⟨x,hx⟩:=CF hlt
   obtain ⟨y,hy⟩:=CF (show i < ds'.length by omega)
   have he:=Bq (enc:=DE.enc) hx
   have he':=Bq (enc:=DE.enc) hy
   have hw1:IntKind.i64.wrap ((i:Int)+1)=((i+1:Nat):Int):=by rw [BF (by omega) (by omega)];omega
   obtain ⟨n,vs,cs⟩:=x
   obtain ⟨n',vs',cs'⟩:=y
   simp only [DE.enc] at he he'
   have hv:=Mv vs vs' σ
   have hne:¬(⟨n,vs,cs⟩:DE)=⟨n',vs',cs'⟩→(⟨ds,fs⟩:Pg)≠⟨ds',fs'⟩:=fun h e=>Xg hx hy h (pJ.1 e).1
   (repeat' (first|refine ctQ rfl ?_|((first|refine rgQ mxQ ?_|refine cdQ ?_)<;>try simp -implicitDefEqProofs only [B1 hlt,AJ,go_sem])|fail))
   refine Run.Q8 mixed ?_
   simp -implicitDefEqProofs only [he,he',and_self,go_sem]
   by_cases hcc:n=n'
   rotate_left
   · rw [EB (hne fun e=>hcc (oP.1 e).1)]
     (repeat' (first|refine ctQ rfl ?_|((first|refine rgQ mxQ ?_|refine cdQ ?_|refine Run.A2 Dt (AK.le_refl _) ?_)<;>try simp -implicitDefEqProofs only [B0,X5 hcc,go_sem])|fail))
   subst hcc
   by_cases hvv:vs=vs'
   rotate_left
   · rw [EB (hne fun e=>hvv (oP.1 e).2.1)]
     rw [EB hvv] at hv
     (repeat' (first|refine ctQ rfl ?_|((first|refine rgQ mxQ ?_|refine cdQ ?_|refine Run.A2 Dt (AK.le_refl _) ?_|refine AD.det (hv) ?_)<;>try simp -implicitDefEqProofs only [B0,beq_self_eq_true,go_sem])|fail))
   subst hvv
   rw [RY] at hv
   by_cases hl:cs.length=cs'.length
   rotate_left
   · rw [EB (hne fun e=>TB hl (oP.1 e).2.2)]
     (repeat' (first|refine ctQ rfl ?_|((first|refine rgQ mxQ ?_|refine cdQ ?_|refine Run.A2 Dt (AK.le_refl _) ?_|refine AD.det (hv) ?_)<;>try simp -implicitDefEqProofs only [B0,beq_self_eq_true,AJ,TA hl,go_sem])|fail))
   (repeat' (first|refine ctQ rfl ?_|((first|refine rgQ mxQ ?_|refine cdQ ?_|refine AD.det (hv) ?_)<;>try simp -implicitDefEqProofs only [B0,beq_self_eq_true,bne_self_eq_false,AJ,hl,go_sem])|fail))
   refine Run.cell 6 2 rfl rfl (fun hb2=>?_)
   have hb2:cs.length≤9223372036854775807:=by simpa [AV.Fc] using hb2
   refine Run.BU ?_
   refine Run.BZ ((fun (a2:AV) (a3:AV) (a5:AV) (a6:AV) (a7:AV)=>fun (k:Nat)=>put 2 a2 (put 3 a3 (put 5 a5 (put 6 a6 (put 7 a7 (put 8 (.d (.int .i64 k)) U)))))) _ _ _ _ _) (fun _=>eqD ds fs ds' fs' n vs cs cs') (fun _=>σ) (fun k=>k≤cs.length∧cs.take k=cs'.take k) (fun k=>cs.length - k) ?_ 0 ⟨by simp,by simp⟩
   rintro k ⟨hk,htk⟩ ihk
   by_cases hltk:k < cs.length
   · obtain ⟨c,hcx⟩:=CF hltk
     obtain ⟨d,hdx⟩:=CF (show k < cs'.length by omega)
     have hce:=Bq (enc:=CE.enc) hcx
     have hde:=Bq (enc:=CE.enc) hdx
     have hwk:IntKind.i64.wrap ((k:Int)+1)=((k+1:Nat):Int):=by rw [BF (by omega) (by omega)];omega
     obtain ⟨m,l⟩:=c
     obtain ⟨m',l'⟩:=d
     simp only [CE.enc] at hce hde
     have hnc:¬(⟨m,l⟩:CE)=⟨m',l'⟩→(⟨ds,fs⟩:Pg)≠⟨ds',fs'⟩:=fun h=>hne fun e=>Xg hcx hdx h (oP.1 e).2.2
     by_cases hm:m=m'
     rotate_left
     · rw [EB (hnc fun e=>hm (tV.1 e).1)]
       (repeat' (first|refine ctQ rfl ?_|((first|refine rgQ mxQ ?_|refine cdQ ?_|refine Run.A2 Dt (AK.le_refl _) ?_)<;>try simp -implicitDefEqProofs only [B1 hltk,hce,hde,AJ,B0,X5 hm,go_sem])|fail))
     subst hm
     by_cases hll:l.length=l'.length
     rotate_left
     · rw [EB (hnc fun e=>TB hll (tV.1 e).2)]
       (repeat' (first|refine ctQ rfl ?_|((first|refine rgQ mxQ ?_|refine cdQ ?_|refine Run.A2 Dt (AK.le_refl _) ?_)<;>try simp -implicitDefEqProofs only [B1 hltk,hce,hde,AJ,B0,beq_self_eq_true,TA hll,go_sem])|fail))
     (repeat' (first|refine ctQ rfl ?_|((first|refine rgQ mxQ ?_|refine cdQ ?_)<;>try simp -implicitDefEqProofs only [B1 hltk,hce,hde,AJ,B0,beq_self_eq_true,bne_self_eq_false,hll,go_sem])|fail))
     refine Run.BU ?_
     refine Run.BZ ((fun (a2:AV) (a3:AV) (a5:AV) (a6:AV) (a7:AV) (a8:AV)=>fun (z:Nat)=>put 2 a2 (put 3 a3 (put 5 a5 (put 6 a6 (put 7 a7 (put 8 a8 (put 9 (.d (.int .i64 z)) U))))))) _ _ _ _ _ _) (fun _=>eqD ds fs ds' fs' n vs cs cs') (fun _=>σ) (fun z=>z≤l.length∧l.take z=l'.take z) (fun z=>l.length - z) ?_ 0 ⟨by simp,by simp⟩
     rintro z ⟨hz,htz⟩ ihz
     by_cases hltz:z < l.length
     · obtain ⟨t,htx⟩:=CF hltz
       obtain ⟨w,hwx⟩:=CF (show z < l'.length by omega)
       have hte:=Bq (enc:=TE.enc) htx
       have hwe:=Bq (enc:=TE.enc) hwx
       have hc:=Xf t.size t w (A4 _) σ
       have hls:=hsz _ (Aa hx) _ (Aa hcx)
       simp only at hls
       have hwz:IntKind.i64.wrap ((z:Int)+1)=((z+1:Nat):Int):=by rw [BF (by omega) (by omega)];omega
       by_cases hxy:t=w
       · subst hxy
         rw [RY] at hc
         obtain ⟨k0,n0,l0⟩:=t
         simp only [teA,TE.AS,AB,AE] at hte hwe hc
         (repeat' (first|refine ctQ rfl ?_|((first|refine rgQ mxQ ?_|refine cdQ ?_|refine AD.det (hc) ?_)<;>try simp -implicitDefEqProofs only [B1 hltz,hce,hde,hte,hwe,AJ,hwz,go_sem])|fail))
         exact ihz (z+1) ⟨by omega,JB htz htx hwx⟩ (by omega)
       · rw [EB (hnc fun e=>Xg htx hwx hxy (tV.1 e).2)]
         rw [EB hxy] at hc
         obtain ⟨k0,n0,l0⟩:=t
         obtain ⟨k1,n1,l1⟩:=w
         simp only [teA,TE.AS,AB,AE] at hte hwe hc
         (repeat' (first|refine ctQ rfl ?_|((first|refine rgQ mxQ ?_|refine cdQ ?_|refine Run.A2 Dt (AK.le_refl _) ?_|refine AD.det (hc) ?_)<;>try simp -implicitDefEqProofs only [B1 hltz,hce,hde,hte,hwe,AJ,go_sem])|fail))
     · have hle:=Lr htz hll hltz
       subst hle
       (repeat' (first|refine ctQ rfl ?_|((first|refine rgQ mxQ ?_|refine cdQ ?_)<;>try simp -implicitDefEqProofs only [Ff hltz,hce,AJ,hwk,go_sem])|fail))
       exact ihk (k+1) ⟨by omega,JB htk hcx hdx⟩ (by omega)
   · have hce:=Lr htk hl hltk
     subst hce
     (repeat' (first|refine ctQ rfl ?_|((first|refine rgQ mxQ ?_|refine cdQ ?_)<;>try simp -implicitDefEqProofs only [Ff hltk,AJ,hw1,go_sem])|fail))
     exact ih (i+1) ⟨by omega,JB ht hx hy⟩ (by omega)
 have hde:=Lr ht hd hlt
 subst hde
 (repeat' (first|refine ctQ rfl ?_|((first|refine rgQ mxQ ?_|refine cdQ ?_)<;>try simp -implicitDefEqProofs only [Ff hlt,AJ,go_sem])|fail))
 refine Run.BU ?_
 refine Run.BZ ((fun (a2:AV) (a3:AV)=>fun (i:Nat)=>put 2 a2 (put 3 a3 (put 10 (.d (.int .i64 i)) U))) _ _) (fun _=>eqL ds fs ds fs') (fun _=>σ) (fun i=>i≤fs.length∧fs.take i=fs'.take i) (fun i=>fs.length - i) ?_ 0 ⟨by simp,by simp⟩
 rintro g ⟨hg,htg⟩ ihg
 by_cases hltg:g < fs.length
 · obtain ⟨x,hx⟩:=CF hltg
   obtain ⟨y,hy⟩:=CF (show g < fs'.length by omega)
   have he:=Bq (enc:=FE.enc) hx
   have he':=Bq (enc:=FE.enc) hy
   have hw1:IntKind.i64.wrap ((g:Int)+1)=((g+1:Nat):Int):=by rw [BF (by omega) (by omega)];omega
   obtain ⟨n,ps,b⟩:=x
   obtain ⟨n',ps',b'⟩:=y
   have hv:=Mv ps ps' σ
   have hc:=SP b.size b b' (A4 _) σ
   have hne:¬(⟨n,ps,b⟩:FE)=⟨n',ps',b'⟩→(⟨ds,fs⟩:Pg)≠⟨ds,fs'⟩:=fun h e=>Xg hx hy h (pJ.1 e).2
   by_cases hcc:n=n'
   rotate_left
   · rw [EB (hne fun e=>hcc (uM.1 e).1)]
     obtain ⟨o0,n0,u0,ns0,ks0,al0⟩:=b
     obtain ⟨o1,n1,u1,ns1,ks1,al1⟩:=b'
     simp only [FE.enc,Ex.AS] at he he'
     (repeat' (first|refine ctQ rfl ?_|((first|refine rgQ mxQ ?_|refine cdQ ?_|refine Run.A2 Dt (AK.le_refl _) ?_)<;>try simp -implicitDefEqProofs only [B1 hltg,he,he',AJ,B0,X5 hcc,go_sem])|fail))
   subst hcc
   by_cases hvv:ps=ps'
   rotate_left
   · rw [EB (hne fun e=>hvv (uM.1 e).2.1)]
     rw [EB hvv] at hv
     obtain ⟨o0,n0,u0,ns0,ks0,al0⟩:=b
     obtain ⟨o1,n1,u1,ns1,ks1,al1⟩:=b'
     simp only [FE.enc,Ex.AS] at he he'
     (repeat' (first|refine ctQ rfl ?_|((first|refine rgQ mxQ ?_|refine cdQ ?_|refine Run.A2 Dt (AK.le_refl _) ?_|refine AD.det (hv) ?_)<;>try simp -implicitDefEqProofs only [B1 hltg,he,he',AJ,B0,beq_self_eq_true,go_sem])|fail))
   subst hvv
   rw [RY] at hv
   by_cases hxy:b=b'
   · subst hxy
     rw [RY] at hc
     obtain ⟨o0,n0,u0,ns0,ks0,al0⟩:=b
     simp only [exA,FE.enc,Ex.AS,AB,AE] at he he' hc
     (repeat' (first|refine ctQ rfl ?_|((first|refine rgQ mxQ ?_|refine cdQ ?_|refine AD.det (hv) ?_|refine AD.det (hc) ?_)<;>try simp -implicitDefEqProofs only [B1 hltg,he,he',hw1,AJ,B0,beq_self_eq_true,go_sem])|fail))
     exact ihg (g+1) ⟨by omega,JB htg hx hy⟩ (by omega)
   · rw [EB (hne fun e=>hxy (uM.1 e).2.2)]
     rw [EB hxy] at hc
     obtain ⟨o0,n0,u0,ns0,ks0,al0⟩:=b
     obtain ⟨o1,n1,u1,ns1,ks1,al1⟩:=b'
     simp only [exA,FE.enc,Ex.AS,AB,AE] at he he' hc
     (repeat' (first|refine ctQ rfl ?_|((first|refine rgQ mxQ ?_|refine cdQ ?_|refine Run.A2 Dt (AK.le_refl _) ?_|refine AD.det (hv) ?_|refine AD.det (hc) ?_)<;>try simp -implicitDefEqProofs only [B1 hltg,he,he',AJ,B0,beq_self_eq_true,go_sem])|fail))
 · have hfe:=Lr htg hf hltg
   subst hfe
   rw [RY]
   (repeat' (first|refine ctQ rfl ?_|((first|refine rgQ mxQ ?_|refine cdQ ?_|refine Run.A2 Dt (AK.le_refl _) ?_)<;>try simp -implicitDefEqProofs only [Ff hltg,AJ,go_sem])|fail))
end Go.Ab
namespace Go.Ab
open Go.Proofs
theorem oD {p:Pg} (h:DM p=true):∀d∈p.data,∀c∈d.cons,c.args.length≤1000000:=fun d hd c hc=>by
 have:=(T0 h).1.2 d hd
 simp only [JY,AR,decide_eq_true_eq,A7] at this
 have:=this.2 c hc
 simp only [Vg,AR,decide_eq_true_eq] at this
 omega
end Go.Ab
namespace Go.Ab
open Go.Proofs
theorem jL {a:Str} (h:(Ew a).2.2=0):DM (Ew a).1=true:=by
 obtain ⟨_,_,_,h4⟩:=v7 h
 first|exact h4|exact h4.1
end Go.Ab
