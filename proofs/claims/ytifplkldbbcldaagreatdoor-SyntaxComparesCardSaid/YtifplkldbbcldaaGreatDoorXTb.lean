/- The law on sizes: SyntaxLimits, over abstract values. The law SyntaxBack over abstract values. Equality of programs, the package's; the law SyntaxCompares over abstract values. The given statement SyntaxCompares, as a card: for every input the law returns true. Conditions: none. -/
import Derived.Test.YtifplkldbbcldaaGreatDoorXXc2
set_option linter.unusedSimpArgs false
set_option linter.unusedVariables false
set_option maxRecDepth 4000
set_option maxHeartbeats 8000000
open Bool renaming eq_iff_iff→Gr
open List renaming map_cons→AD,map_nil→AG,cons_append→AX,nil_append→A0,mem_cons→CN,all_eq_true→A5
open Nat renaming le_refl→A8
open Option.some renaming inj→Gv
namespace Go.Ab
open Go.Proofs
end Go.Ab
namespace Go.Ab
open Go.Proofs
theorem r1 {p:Pg} (h:p.sm):(∀d∈p.data,cL d)∧(∀d∈p.data,∀c∈d.cons,∀t∈c.args,t.size≤100000)∧∀d∈p.data,∀c∈d.cons,c.args.length≤1000000:=
 ⟨fun d hd c hc t ht=>by have:=((h.1.2 d hd).2.2.2 c hc).2.2 t ht;omega,fun d hd c hc t ht=>by have:=((h.1.2 d hd).2.2.2 c hc).2.2 t ht;omega,fun d hd c hc=>by have:=((h.1.2 d hd).2.2.2 c hc).2.1;omega⟩
end Go.Ab
namespace Go.Ab
open Go.Proofs
theorem W6 {α β:Type} {a b:α} {c d:β} (h:a=b↔c=d):eqB a b=eqB c d:=by rw [Gr,j0,j0];exact h
theorem Uy:∀(N:Nat) (t u:TE),t.size≤N→∀σ,AQ Tryz.prog 162 [teA t,teA u] σ (fun v σ'=>v= .d (.bool (eqB t u))∧σ'=σ)
 |0,t,u,h,_=>by have:=TE.size_pos t;omega
 |N+1,.mk k n l,.mk k' n' m,h,σ=>by
  rw [TE.size] at h
  have hc:=H9 (fid:=162) (by kernel_rfl) l m σ (fun x hx y _=>Uy N x y (by have:=TE.Ka hx;omega) σ)
  refine UN (by simp) ?_
  rw [Ax]
  simp only [teA,TE.A2,AD,AG]
  by_cases hk:k=k'
  rotate_left
  · rw [BF (show TE.mk k n l≠TE.mk k' n' m from fun e=>hk (by injection e))]
    (repeat' (first|refine Run.ct rfl ?_|((first|refine Run.reg mixed ?_|refine Run.AJ ?_|refine Run.A9 GO (AM.le_refl _) ?_|(refine AP rfl (fun h=>?_) (fun h=>?_)<;>try (cases h;done)))<;>try simp -implicitDefEqProofs only [Ds hk,go_sem])|(refine ⟨fun h=>?_,fun h=>?_⟩<;>first|(cases h;done)|try simp only [h])|fail))
  subst hk
  by_cases hn:n=n'
  rotate_left
  · rw [BF (show TE.mk k n l≠TE.mk k n' m from fun e=>hn (by injection e))]
    (repeat' (first|refine Run.ct rfl ?_|((first|refine Run.reg mixed ?_|refine Run.AJ ?_|refine Run.A9 GO (AM.le_refl _) ?_|(refine AP rfl (fun h=>?_) (fun h=>?_)<;>try (cases h;done)))<;>try simp -implicitDefEqProofs only [beq_self_eq_true,C9,MD hn,go_sem])|(refine ⟨fun h=>?_,fun h=>?_⟩<;>first|(cases h;done)|try simp only [h])|fail))
  subst hn
  rw [W6 (show TE.mk k n l=TE.mk k n m↔l=m by simp)]
  (repeat' (first|refine Run.ct rfl ?_|((first|refine Run.reg mixed ?_|refine Run.AJ ?_|refine Run.A9 GO (AM.le_refl _) ?_|refine AI.det (hc) ?_|(refine AP rfl (fun h=>?_) (fun h=>?_)<;>try (cases h;done)))<;>try simp -implicitDefEqProofs only [beq_self_eq_true,C9,go_sem])|(refine ⟨fun h=>?_,fun h=>?_⟩<;>first|(cases h;done)|try simp only [h])|fail))
theorem dI (c d:CE) (σ:AM):AQ Tryz.prog 122 [ceA c,ceA d] σ (fun v σ'=>v= .d (.bool (eqB c d))∧σ'=σ):=by
 obtain ⟨n,l⟩:=c
 obtain ⟨n',m⟩:=d
 have hc:=H9 (fid:=162) (by kernel_rfl) l m σ (fun x hx y _=>Uy _ x y (A8 _) σ)
 refine VF (by simp) ?_
 rw [Ax]
 simp only [ceA,CE.enc,AD,AG]
 by_cases hn:n=n'
 rotate_left
 · rw [BF (fun e=>hn (jT.1 e).1)]
   (repeat' (first|refine Run.ct rfl ?_|((first|refine Run.reg mixed ?_|refine Run.AJ ?_|refine Run.A9 JV (AM.le_refl _) ?_|(refine AP rfl (fun h=>?_) (fun h=>?_)<;>try (cases h;done)))<;>try simp -implicitDefEqProofs only [C9,MD hn,go_sem])|(refine ⟨fun h=>?_,fun h=>?_⟩<;>first|(cases h;done)|try simp only [h])|fail))
 subst hn
 rw [W6 (show (⟨n,l⟩:CE)=⟨n,m⟩↔l=m by simp)]
 (repeat' (first|refine Run.ct rfl ?_|((first|refine Run.reg mixed ?_|refine Run.AJ ?_|refine Run.A9 JV (AM.le_refl _) ?_|refine AI.det (hc) ?_|(refine AP rfl (fun h=>?_) (fun h=>?_)<;>try (cases h;done)))<;>try simp -implicitDefEqProofs only [beq_self_eq_true,C9,go_sem])|(refine ⟨fun h=>?_,fun h=>?_⟩<;>first|(cases h;done)|try simp only [h])|fail))
theorem aX (c d:DE) (σ:AM):AQ Tryz.prog 61 [deA c,deA d] σ (fun v σ'=>v= .d (.bool (eqB c d))∧σ'=σ):=by
 obtain ⟨n,vs,l⟩:=c
 obtain ⟨n',vs',m⟩:=d
 have hc:=ON (fid:=122) (by kernel_rfl) l m σ (fun x hx y _=>dI x y σ)
 have hv:=IT vs vs' σ
 refine UL (by simp) ?_
 rw [Ax]
 simp only [deA,DE.enc,AD,AG]
 by_cases hn:n=n'
 rotate_left
 · rw [BF (fun e=>hn (Zk.1 e).1)]
   (repeat' (first|refine Run.ct rfl ?_|((first|refine Run.reg mixed ?_|refine Run.AJ ?_|refine Run.A9 GN (AM.le_refl _) ?_|(refine AP rfl (fun h=>?_) (fun h=>?_)<;>try (cases h;done)))<;>try simp -implicitDefEqProofs only [C9,MD hn,go_sem])|(refine ⟨fun h=>?_,fun h=>?_⟩<;>first|(cases h;done)|try simp only [h])|fail))
 subst hn
 by_cases hs:vs=vs'
 rotate_left
 · rw [BF (fun e=>hs (Zk.1 e).2.1)]
   rw [BF hs] at hv
   (repeat' (first|refine Run.ct rfl ?_|((first|refine Run.reg mixed ?_|refine Run.AJ ?_|refine Run.A9 GN (AM.le_refl _) ?_|refine AI.det (hv) ?_|(refine AP rfl (fun h=>?_) (fun h=>?_)<;>try (cases h;done)))<;>try simp -implicitDefEqProofs only [beq_self_eq_true,C9,go_sem])|(refine ⟨fun h=>?_,fun h=>?_⟩<;>first|(cases h;done)|try simp only [h])|fail))
 subst hs
 rw [MM] at hv
 rw [W6 (show (⟨n,vs,l⟩:DE)=⟨n,vs,m⟩↔l=m by simp)]
 (repeat' (first|refine Run.ct rfl ?_|((first|refine Run.reg mixed ?_|refine Run.AJ ?_|refine Run.A9 GN (AM.le_refl _) ?_|refine AI.det (hv) ?_|refine AI.det (hc) ?_|(refine AP rfl (fun h=>?_) (fun h=>?_)<;>try (cases h;done)))<;>try simp -implicitDefEqProofs only [beq_self_eq_true,C9,go_sem])|(refine ⟨fun h=>?_,fun h=>?_⟩<;>first|(cases h;done)|try simp only [h])|fail))
set_option maxHeartbeats 4000000 in
theorem Ps:∀(N:Nat) (t u:Ex),t.size≤N→∀σ,AQ Tryz.prog 123 [exA t,exA u] σ (fun v σ'=>v= .d (.bool (eqB t u))∧σ'=σ)
 |0,t,u,h,_=>by have:=Ex.size_pos t;omega
 |N+1,.mk o n u ns ks al,.mk o' n' u' ns' ks' al',h,σ=>by
  rw [Ex.size] at h
  have hsn:=IT ns ns' σ
  have hkk:=Qt (fid:=123) (by kernel_rfl) ks ks' σ (fun x hx y _=>Ps N x y (by have:=Ex.Ka hx;omega) σ)
  have hal:=Rb (fid:=165) (by kernel_rfl) al al' σ (fun x hx y _=>by
   obtain ⟨c,vs,b⟩:=x
   obtain ⟨c',vs',b'⟩:=y
   have hb:=Ps N b b' (by have:=Al.Ka hx;rw [Al.size] at this;omega) σ
   have hv:=IT vs vs' σ
   refine VE (by simp) ?_
   rw [Ax]
   by_cases hn:c=c'
   rotate_left
   · rw [BF (show Al.mk c vs b≠.mk c' vs' b' from fun e=>hn (by injection e))]
     obtain ⟨o0,n0,u0,ns0,ks0,al0⟩:=b
     obtain ⟨o1,n1,u1,ns1,ks1,al1⟩:=b'
     simp only [alA,Al.A2,Ex.A2,AD,AG]
     (repeat' (first|refine Run.ct rfl ?_|((first|refine Run.reg mixed ?_|refine Run.AJ ?_|refine Run.A9 Gk (AM.le_refl _) ?_|(refine AP rfl (fun h=>?_) (fun h=>?_)<;>try (cases h;done)))<;>try simp -implicitDefEqProofs only [C9,MD hn,go_sem])|(refine ⟨fun h=>?_,fun h=>?_⟩<;>first|(cases h;done)|try simp only [h])|fail))
   subst hn
   by_cases hs:vs=vs'
   rotate_left
   · rw [BF (show Al.mk c vs b≠.mk c vs' b' from fun e=>hs (by injection e))]
     rw [BF hs] at hv
     obtain ⟨o0,n0,u0,ns0,ks0,al0⟩:=b
     obtain ⟨o1,n1,u1,ns1,ks1,al1⟩:=b'
     simp only [alA,Al.A2,Ex.A2,AD,AG]
     (repeat' (first|refine Run.ct rfl ?_|((first|refine Run.reg mixed ?_|refine Run.AJ ?_|refine Run.A9 Gk (AM.le_refl _) ?_|refine AI.det (hv) ?_|(refine AP rfl (fun h=>?_) (fun h=>?_)<;>try (cases h;done)))<;>try simp -implicitDefEqProofs only [beq_self_eq_true,C9,go_sem])|(refine ⟨fun h=>?_,fun h=>?_⟩<;>first|(cases h;done)|try simp only [h])|fail))
   subst hs
   rw [MM] at hv
   rw [W6 (show Al.mk c vs b= .mk c vs b'↔b=b' by simp)]
   generalize eqB b b'=r at hb ⊢
   obtain ⟨o0,n0,u0,ns0,ks0,al0⟩:=b
   obtain ⟨o1,n1,u1,ns1,ks1,al1⟩:=b'
   simp only [exA,alA,Al.A2,Ex.A2,AD,AG] at hb ⊢
   (repeat' (first|refine Run.ct rfl ?_|((first|refine Run.reg mixed ?_|refine Run.AJ ?_|refine Run.A9 Gk (AM.le_refl _) ?_|refine AI.det (hv) ?_|refine AI.det (hb) ?_|(refine AP rfl (fun h=>?_) (fun h=>?_)<;>try (cases h;done)))<;>try simp -implicitDefEqProofs only [beq_self_eq_true,C9,go_sem])|(refine ⟨fun h=>?_,fun h=>?_⟩<;>first|(cases h;done)|try simp only [h])|fail)))
  refine UM (by simp) ?_
  rw [Ax]
  simp only [exA,Ex.A2,AD,AG]
  by_cases ho:o=o'
  rotate_left
  · rw [BF (fun e=>ho (by injection e))]
    (repeat' (first|refine Run.ct rfl ?_|((first|refine Run.reg mixed ?_|refine Run.AJ ?_|refine Run.A9 Cu (AM.le_refl _) ?_|(refine AP rfl (fun h=>?_) (fun h=>?_)<;>try (cases h;done)))<;>try simp -implicitDefEqProofs only [Ds ho,go_sem])|(refine ⟨fun h=>?_,fun h=>?_⟩<;>first|(cases h;done)|try simp only [h])|fail))
  subst ho
  by_cases hn:n=n'
  rotate_left
  · rw [BF (fun e=>hn (by injection e))]
    (repeat' (first|refine Run.ct rfl ?_|((first|refine Run.reg mixed ?_|refine Run.AJ ?_|refine Run.A9 Cu (AM.le_refl _) ?_|(refine AP rfl (fun h=>?_) (fun h=>?_)<;>try (cases h;done)))<;>try simp -implicitDefEqProofs only [MD hn,C9,beq_self_eq_true,go_sem])|(refine ⟨fun h=>?_,fun h=>?_⟩<;>first|(cases h;done)|try simp only [h])|fail))
  subst hn
  by_cases hu:u=u'
  rotate_left
  · rw [BF (fun e=>hu (by injection e))]
    (repeat' (first|refine Run.ct rfl ?_|((first|refine Run.reg mixed ?_|refine Run.AJ ?_|refine Run.A9 Cu (AM.le_refl _) ?_|(refine AP rfl (fun h=>?_) (fun h=>?_)<;>try (cases h;done)))<;>try simp -implicitDefEqProofs only [Ds hu,C9,beq_self_eq_true,go_sem])|(refine ⟨fun h=>?_,fun h=>?_⟩<;>first|(cases h;done)|try simp only [h])|fail))
  subst hu
  by_cases hs:ns=ns'
  rotate_left
  · rw [BF hs] at hsn
    rw [BF (fun e=>hs (by injection e))]
    (repeat' (first|refine Run.ct rfl ?_|((first|refine Run.reg mixed ?_|refine Run.AJ ?_|refine Run.A9 Cu (AM.le_refl _) ?_|refine AI.det (hsn) ?_|(refine AP rfl (fun h=>?_) (fun h=>?_)<;>try (cases h;done)))<;>try simp -implicitDefEqProofs only [beq_self_eq_true,C9,go_sem])|(refine ⟨fun h=>?_,fun h=>?_⟩<;>first|(cases h;done)|try simp only [h])|fail))
  subst hs
  rw [MM] at hsn
  by_cases hk:ks=ks'
  rotate_left
  · rw [BF hk] at hkk
    rw [BF (fun e=>hk (by injection e))]
    (repeat' (first|refine Run.ct rfl ?_|((first|refine Run.reg mixed ?_|refine Run.AJ ?_|refine Run.A9 Cu (AM.le_refl _) ?_|refine AI.det (hsn) ?_|refine AI.det (hkk) ?_|(refine AP rfl (fun h=>?_) (fun h=>?_)<;>try (cases h;done)))<;>try simp -implicitDefEqProofs only [beq_self_eq_true,C9,go_sem])|(refine ⟨fun h=>?_,fun h=>?_⟩<;>first|(cases h;done)|try simp only [h])|fail))
  rw [JS hk] at hkk
  rw [W6 (show Ex.mk o n u ns ks al= .mk o n u ns ks' al'↔al=al' by simp [hk])]
  (repeat' (first|refine Run.ct rfl ?_|((first|refine Run.reg mixed ?_|refine Run.AJ ?_|refine Run.A9 Cu (AM.le_refl _) ?_|refine AI.det (hsn) ?_|refine AI.det (hkk) ?_|refine AI.det (hal) ?_|(refine AP rfl (fun h=>?_) (fun h=>?_)<;>try (cases h;done)))<;>try simp -implicitDefEqProofs only [beq_self_eq_true,C9,go_sem])|(refine ⟨fun h=>?_,fun h=>?_⟩<;>first|(cases h;done)|try simp only [h])|fail))
theorem dJ (c d:FE) (σ:AM):AQ Tryz.prog 63 [feA c,feA d] σ (fun v σ'=>v= .d (.bool (eqB c d))∧σ'=σ):=by
 obtain ⟨n,vs,b⟩:=c
 obtain ⟨n',vs',b'⟩:=d
 have hb:=Ps _ b b' (A8 _) σ
 have hv:=IT vs vs' σ
 refine VG (by simp) ?_
 rw [Ax]
 by_cases hn:n=n'
 rotate_left
 · rw [BF (fun e=>hn (dN.1 e).1)]
   obtain ⟨o0,n0,u0,ns0,ks0,al0⟩:=b
   obtain ⟨o1,n1,u1,ns1,ks1,al1⟩:=b'
   simp only [feA,FE.enc,Ex.A2,AX,A0,AD,AG]
   (repeat' (first|refine Run.ct rfl ?_|((first|refine Run.reg mixed ?_|refine Run.AJ ?_|refine Run.A9 Gl (AM.le_refl _) ?_|(refine AP rfl (fun h=>?_) (fun h=>?_)<;>try (cases h;done)))<;>try simp -implicitDefEqProofs only [C9,MD hn,go_sem])|(refine ⟨fun h=>?_,fun h=>?_⟩<;>first|(cases h;done)|try simp only [h])|fail))
 subst hn
 by_cases hs:vs=vs'
 rotate_left
 · rw [BF (fun e=>hs (dN.1 e).2.1)]
   rw [BF hs] at hv
   obtain ⟨o0,n0,u0,ns0,ks0,al0⟩:=b
   obtain ⟨o1,n1,u1,ns1,ks1,al1⟩:=b'
   simp only [feA,FE.enc,Ex.A2,AX,A0,AD,AG]
   (repeat' (first|refine Run.ct rfl ?_|((first|refine Run.reg mixed ?_|refine Run.AJ ?_|refine Run.A9 Gl (AM.le_refl _) ?_|refine AI.det (hv) ?_|(refine AP rfl (fun h=>?_) (fun h=>?_)<;>try (cases h;done)))<;>try simp -implicitDefEqProofs only [beq_self_eq_true,C9,go_sem])|(refine ⟨fun h=>?_,fun h=>?_⟩<;>first|(cases h;done)|try simp only [h])|fail))
 subst hs
 rw [MM] at hv
 rw [W6 (show (⟨n,vs,b⟩:FE)=⟨n,vs,b'⟩↔b=b' by simp)]
 generalize eqB b b'=r at hb ⊢
 obtain ⟨o0,n0,u0,ns0,ks0,al0⟩:=b
 obtain ⟨o1,n1,u1,ns1,ks1,al1⟩:=b'
 simp only [exA,feA,FE.enc,Ex.A2,AX,A0,AD,AG] at hb ⊢
 (repeat' (first|refine Run.ct rfl ?_|((first|refine Run.reg mixed ?_|refine Run.AJ ?_|refine Run.A9 Gl (AM.le_refl _) ?_|refine AI.det (hv) ?_|refine AI.det (hb) ?_|(refine AP rfl (fun h=>?_) (fun h=>?_)<;>try (cases h;done)))<;>try simp -implicitDefEqProofs only [beq_self_eq_true,C9,go_sem])|(refine ⟨fun h=>?_,fun h=>?_⟩<;>first|(cases h;done)|try simp only [h])|fail))
theorem IU (p q:Pg) (σ:AM):AQ Tryz.prog 27 [pgA p,pgA q] σ (fun v σ'=>v= .d (.bool (eqB p q))∧σ'=σ):=by
 obtain ⟨ds,fs⟩:=p
 obtain ⟨ds',fs'⟩:=q
 have h1:=Nd (fid:=61) (by kernel_rfl) ds ds' σ (fun x hx y _=>aX x y σ)
 have h2:=OO (fid:=63) (by kernel_rfl) fs fs' σ (fun x hx y _=>dJ x y σ)
 refine Xz (by simp) ?_
 rw [Ax]
 simp only [pgA,Pg.enc,AD,AG]
 by_cases hd:ds=ds'
 rotate_left
 · rw [BF (fun e=>hd (eQ.1 e).1)]
   rw [BF hd] at h1
   (repeat' (first|refine Run.ct rfl ?_|((first|refine Run.reg mixed ?_|refine Run.AJ ?_|refine Run.A9 NK (AM.le_refl _) ?_|refine AI.det (h1) ?_|(refine AP rfl (fun h=>?_) (fun h=>?_)<;>try (cases h;done)))<;>try simp -implicitDefEqProofs only [go_sem])|(refine ⟨fun h=>?_,fun h=>?_⟩<;>first|(cases h;done)|try simp only [h])|fail))
 rw [JS hd] at h1
 rw [W6 (show (⟨ds,fs⟩:Pg)=⟨ds',fs'⟩↔fs=fs' by simp [hd])]
 (repeat' (first|refine Run.ct rfl ?_|((first|refine Run.reg mixed ?_|refine Run.AJ ?_|refine Run.A9 NK (AM.le_refl _) ?_|refine AI.det (h1) ?_|refine AI.det (h2) ?_|(refine AP rfl (fun h=>?_) (fun h=>?_)<;>try (cases h;done)))<;>try simp -implicitDefEqProofs only [go_sem])|(refine ⟨fun h=>?_,fun h=>?_⟩<;>first|(cases h;done)|try simp only [h])|fail))
theorem Ug (p q:Pg) (σ:AM) (hg:X4 σ) (hp:σ.gt SX=some UZ):AQ Tryz.prog 11 [pgA p,pgA q] σ (fun v σ'=>v= .d (.bool true)∧σ'=σ):=by
 have hk:=VL p σ
 have hk2:=VL q
 have haw:=YK σ hg hp
 refine QB (by simp) ?_
 rw [Ax]
 have h1:=IU p q σ
 have h2:=IU q p σ
 have h3:=IU p p σ
 have h4:=IU q q σ
 have h5:=eW p q σ
 rw [W6 (show q=p↔p=q from ⟨fun h=>h.symm,fun h=>h.symm⟩)] at h2
 rw [MM] at h3 h4
 obtain ⟨ds,fs⟩:=p
 obtain ⟨ds',fs'⟩:=q
 simp only [pgA,Pg.enc,AD,AG] at hk hk2 h1 h2 h3 h4 h5 ⊢
 (repeat' (first|refine Run.ct rfl ?_|((first|refine Run.reg mixed ?_|refine Run.AJ ?_|(refine AI.mk rfl hk ?_;rintro _ σ ⟨b,⟨rfl,rfl⟩,hb⟩;cases b)|(refine Run.A9 Ed (AM.le_refl _) ?_)|(refine AP rfl (fun h=>?_) (fun h=>?_)<;>try (cases h;done)))<;>try simp -implicitDefEqProofs only [go_sem])|(refine ⟨fun h=>?_,fun h=>?_⟩<;>first|(cases h;done)|try simp only [h])|fail))
 have hsm:=hb rfl
 have hk2:=hk2 σ
 (repeat' (first|refine Run.ct rfl ?_|((first|refine Run.reg mixed ?_|refine Run.AJ ?_|(refine AI.mk rfl hk2 ?_;rintro _ σ ⟨b,⟨rfl,rfl⟩,hb2⟩;cases b)|(refine Run.A9 Ed (AM.le_refl _) ?_)|(refine AP rfl (fun h=>?_) (fun h=>?_)<;>try (cases h;done)))<;>try simp -implicitDefEqProofs only [go_sem])|(refine ⟨fun h=>?_,fun h=>?_⟩<;>first|(cases h;done)|try simp only [h])|fail))
 have h5:=h5 (r1 hsm).2.2
 generalize eqB (⟨ds,fs⟩:Pg) ⟨ds',fs'⟩=r at h1 h2 h5
 cases r
 all_goals (repeat' (first|refine Run.ct rfl ?_|((first|refine Run.reg mixed ?_|refine Run.AJ ?_|refine Run.A9 Ed (AM.le_refl _) ?_|refine AI.det (h1) ?_|refine AI.det (h2) ?_|refine AI.det (h3) ?_|refine AI.det (h4) ?_|refine AI.det (h5) ?_|refine AI.det (haw) ?_|(refine AP rfl (fun h=>?_) (fun h=>?_)<;>try (cases h;done)))<;>try simp -implicitDefEqProofs only [go_sem])|(refine ⟨fun h=>?_,fun h=>?_⟩<;>first|(cases h;done)|try simp only [h])|fail))
end Go.Ab
namespace Go.Ab
open Go.Proofs
theorem TY (te:TypeId) (pe:Value) (av:List AV) (h:X3 Tryz.prog [25,25] av):AQ Tryz.prog 11 av (MC (gtT te pe)) (fun v _=>v= .d (.bool true)):=by
 obtain ⟨x0,x1,rfl⟩:=oV h
 exact (Ug x0 x1 (MC (gtT te pe)) (tI te pe) (tJ te pe)).mono (fun _ _ h=>h.1)
end Go.Ab
namespace Go.Proofs.YtifplkldbbcldaaGreatDoor
open Go.ChangeShapes Go.WideShapes Go.ChangeAt Go.RowKit
set_option maxRecDepth 100000 in
theorem R7 (os:Os) (started:os.Started) (H:Type) (enc:TypeId×Value→H):
 ReturnsInHanded {} Tryz.checked os 11 .any (fun w args=>(Rows.syntaxComparesSpec.pre enc Tryz.prog Tryz.f11 [] false w args∧laidMetH Tryz.prog eD w)∧sizedMet enc Tryz.prog Tryz.f11 (OpenSpec.ofChange Rows.syntaxComparesSpec) false w args)
  (Rows.syntaxComparesSpec.post enc Tryz.prog Tryz.f11 false true false false):=by
 refine returnsInHanded_of_change_and (C:=Tryz.checked) (X:=fun w _=>laidMetH Tryz.prog eD w) (fun _ _ _ hh h=>h.of_heap hh) Tryz.own started (by kernel_rfl) Tryz.func11
  (ChangeSpec.witness_shaped (enc:=enc) (C:=Tryz.checked) (os:=os) (X:=fun w _=>laidMetH Tryz.prog eD w) false (World.doorLaid Tryz.prog 400 os) #[.agg #[.slice none 0 0,.slice none 0 0],.agg #[.slice none 0 0,.slice none 0 0]] 8 rfl (World.shaped_of_RefB (by kernel_rfl) (by kernel_rfl)) (by kernel_rfl) (by kernel_rfl) (by kernel_rfl) (pL os _)) ?_
 intro W base args ds gs before hval hW _ _ hL _
 obtain ⟨te,pe,hT⟩:=tK hL
 refine Go.Ab.ZZ (P:=Tryz.prog) (gt:=Go.Ab.gtT te pe) [25,22,61,9,40,59,72,70,75,3,23,66,44,2,41,42,112] Tryz.laidOut (by kernel_rfl) ?_ ?_ (tb:=4) (by kernel_rfl) Tryz.underlying4 rfl ?_ ?_ W hT base args ds gs before hval hW
 · rw [Tryz.params11];simp
 · rw [Tryz.params11]
   intro t ht
   simp only [CN,List.not_mem_nil,or_false,or_self] at ht
   subst ht
   exact ⟨by kernel_rfl,of_decide_eq_true (by kernel_rfl)⟩
 · rw [Tryz.params11]
   intro ds hd
   match ds,hd with
   |[d0,d1],_=>rfl
 · rw [Tryz.params11]
   exact Go.Ab.TY te pe
theorem U6:Rows.SyntaxComparesSaid:=
 OpenClaim.holds_of_wide 11 Tryz.f11 rfl rfl rfl rfl rfl rfl rfl ⟨rfl,rfl,rfl,rfl,rfl⟩ rfl rfl rfl rfl rfl (by kernel_rfl) Tryz.func11 (by kernel_rfl)
  (of_decide_eq_true (by kernel_rfl)) (by unfold Func.isWrapper;first|(rw [if_pos (by decide+kernel)];kernel_rfl)|(rw [if_neg (by decide+kernel)];exact ⟨rfl,rfl⟩))
  (fun os started H enc _=>R7 os started H enc)
theorem syntaxCompares_holds:Rows.SyntaxComparesCardSaid:=
 Claim7.holds_tied_plain_at .later [] [.data,.data,.data,.sentinel,.sentinel] true (true,"21a277a3e8a610eced9e93bcce68d99d4ad37844a2772ead4278e0ed35489f0c") true
  U6 (fun _ h=>by cases h) (by kernel_rfl) (fun _ h=>by cases h) syntaxCompares_row_tie rfl ⟨rfl,rfl⟩ (by kernel_rfl) rfl
  (fun f fn hf hfn=>by
    obtain rfl:f=11:=Gv ((show Tryz.prog.funcNamed "amortcost/amortcostlaw04.SyntaxCompares"=some 11 by kernel_rfl).symm.trans hf)|>.symm
    obtain rfl:fn=Tryz.f11:=(Gv (Tryz.func11.symm.trans hfn)).symm
    exact ⟨by kernel_rfl,fun j t ht=>by
     rw [Tryz.params11] at ht
     have hm:t∈[25,25]:=by simpa using Array.mem_of_getElem? ht
     have hall:([25,25].all fun u=>!Tryz.prog.wantsStandIn u)=true:=by kernel_rfl
     exact (show Tryz.prog.wantsStandIn t=false by simpa using A5.1 hall t hm)⟩)
  (by kernel_rfl)
end Go.Proofs.YtifplkldbbcldaaGreatDoor
#print axioms Go.Proofs.YtifplkldbbcldaaGreatDoor.syntaxCompares_holds
