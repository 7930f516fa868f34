/- The reference's parser: declarations. The parser: products, sums, comparisons, binders, expressions. The parser: comparisons, binders, expressions. Conditions: none. -/
import Derived.Test.YtifplkldbbcldaaGreatDoorXZh
set_option linter.unusedSimpArgs false
set_option linter.unusedVariables false
set_option maxRecDepth 4000
set_option maxHeartbeats 8000000
open List renaming mem_cons→Cm,mem_cons_self→BB,mem_cons_of_mem→Bh,all_eq_true→A7,length_pos_iff→A5,length_append→AA,length_cons→AG,length_nil→AI,map_cons→AB,map_nil→AE,nil_append→A6,map_append→Ax,length_map→AJ
open Option.some renaming inj→DK
open Bool renaming false_eq_true→AL
namespace Go.Ab
open Go.Proofs
inductive Mix:List AV→List AV→Prop
 |nil:Mix [] []
 |same (c:AV) {cs ds:List AV} (h:Mix cs ds):Mix (c::cs) (c::ds)
 |pl (c:AV) {cs ds:List AV} (h:Mix cs ds):Mix (c::cs) (c.plain::ds)
theorem Mix.refl:∀cs:List AV,Mix cs cs
 |[]=>.nil
 |c::l=>.same c (Mix.refl l)
theorem Mix.vr {g:Gh} {cs ds:List AV} (h:Mix cs ds):∀ {vs:List Value},VRs g cs vs→VRs g ds vs:=by
 induction h with
 |nil=>exact fun h=>h
 |same c _ ih=>intro vs hv;cases hv with|cons h hs=>exact .cons h (ih hs)
 |pl c _ ih=>intro vs hv;cases hv with|cons h hs=>exact .cons h.plain (ih hs)
theorem Mix.ok {cs ds:List AV} (h:Mix cs ds):(∀v∈cs,v.CB=true)→∀v∈ds,v.CB=true:=by
 induction h with
 |nil=>exact fun h=>h
 |same c _ ih=>
  intro hv v hm
  rcases Cm.1 hm with rfl|hm
  · exact hv _ (BB ..)
  · exact ih (fun x hx=>hv x (Bh _ hx)) v hm
 |pl c _ ih=>
  intro hv v hm
  rcases Cm.1 hm with rfl|hm
  · exact VG (hv _ (BB ..))
  · exact ih (fun x hx=>hv x (Bh _ hx)) v hm
theorem Run.AE2 {cx:Cx} {KK:AV→AK→Prop} {k:List CI} {F:Fm} {L L':Lm} {σ:AK} (hL:∀q cs',L' q=some cs'→∃cs,L q=some cs∧Mix cs cs') (h:Run cx KK k F L' σ):Run cx KK k F L σ:=by
 intro items base g lam Pr a w0 w b cs0 hi0 hf hb hk
 refine h items base g lam Pr a w0 w b cs0 hi0 ⟨hf.tm,hf.sz,hf.df,fun q cs' hq=>?_,hf.inj,hf.npr,hf.rel⟩ hb hk
 obtain ⟨cs,hc,hp⟩:=hL q cs' hq
 obtain ⟨hok,b',vs,ty,h1,h2,h3,h4⟩:=hf.loc q cs hc
 refine ⟨?_,b',vs,ty,h1,h2,h3,hp.vr h4⟩
 simp only [Ag,A7] at hok ⊢
 exact hp.ok hok
theorem Run.wA {cx:Cx} {KK:AV→AK→Prop} {k:List CI} {F:Fm} {σ1 τ2:AK} {c2:List AV} {nm:Str} {v:AV} {vs:List Str} (hv:v.plain= .d (.sl (vs.map Br))) (hle:σ1.le τ2)
 (h:Run cx KK k F (Aq 2 c2 (Aq 3 [.d (.str nm),.d (.sl (vs.map Br)),.AO] Ab.E)) σ1):
 Run cx KK k F (Aq 2 c2 (Aq 3 [.d (.str nm),v,.AO] Ab.E)) τ2:=by
 refine Run.bZ (σ':=σ1) (fun _=>.inl rfl) (fun _ _ h=>h) hle ?_
 refine Run.AE2 (fun q' cs' hq=>?_) h
 by_cases e2:q'=2
 · subst e2
   exact ⟨cs',hq,Mix.refl _⟩
 · by_cases e3:q'=3
   · subst e3
     refine ⟨_,rfl,?_⟩
     have:cs'=[.d (.str nm),.d (.sl (vs.map Br)),.AO]:=(DK hq).symm
     rw [this,← hv]
     exact .same _ (.pl v (.same _ .nil))
   · simp [Aq,e2,e3,Ab.E] at hq
theorem jV (Q:AV→AK→Prop) (rest:List CI) (i:Nat) (L:List Tok) (nm:Str) (vs:List Str) (σ:AK) (s0:RSt) (h0:ROk L s0)
 (hfin:∀v τ,RS σ i L ((BX VK [124]).run s0).2 72 2 (((BX VK [124]).run s0).1.map CE.enc) v τ→
   Run Dz Q rest (put 0 (.gp i 0) (put 2 (.lp 2 0) (put 3 (.lp 3 0) (put 48 (.d (.bool true)) U)))) (Aq 2 [.d (.str []),.AO,.AO] (Aq 3 [.d (.str nm),.d (.sl (vs.map Br)),v] Ab.E)) τ):
 Run Dz Q (.again MS::.blk 2::rest) (put 0 (.gp i 0) (put 2 (.lp 2 0) (put 3 (.lp 3 0) U))) (Aq 2 [.d (.str []),.AO,.AO] (Aq 3 [.d (.str nm),.d (.sl (vs.map Br)),.AO] Ab.E)) (σ.AH i (rsA L s0)):=by
 have hf0:=Bo
 have hl0:=h0.suf.length_le
 have hl1:=h0.len
 refine Run.BZ (α:=RSt×List CE×Nat×AV×AK) (fun _=>put 0 (.gp i 0) (put 2 (.lp 2 0) (put 3 (.lp 3 0) U))) (fun y=>Aq 2 [.d (.str []),.AO,.AO] (Aq 3 [.d (.str nm),.d (.sl (vs.map Br)),y.2.2.2.1] Ab.E)) (fun y=>y.2.2.2.2) (fun y=>ROk L y.1∧y.1.r.length≤y.2.2.1∧y.2.1.length+y.1.r.length≤17000∧RS σ i L y.1 72 2 (y.2.1.map CE.enc) y.2.2.2.1 y.2.2.2.2∧(VK.bind fun x=>B5 VK [124] y.2.2.1 (y.2.1++[x])).run y.1=(BX VK [124]).run s0) (fun y=>y.1.r.length) ?_ (s0,[],Af,.AO,_) ⟨h0,by simp only;omega,by simp;omega,RS.nil σ i L s0 _ _,rfl⟩
 rintro ⟨s1,l,q,v,τ⟩ ⟨p1,p3,p4,p5,p6⟩ ih
 simp only at p1 p3 p4 p5 p6
 have p2:s1.r.length≤Af:=by have:=p1.suf.length_le;omega
 rw [BD] at p6
 have hal:VK.run s1=_:=rfl
 conv at hal=>rhs;unfold VK
 simp only [BD,BK] at hal
 rw [hal] at p6
 clear hal
 have c1:=Pj i L Af τ s1 trivial p1 p2 p5.blk
 have h2:=p1.run Fv
 have l2:=RM.le Fv p1.wf
 have p2a:=p5.step (Fv.run s1).2
 generalize Fv.run s1=y at c1 h2 l2 p2a p6
 obtain ⟨c0,s2⟩:=y
 simp only at c1 h2 l2 p2a p6
 cases hp:s2.is [40] with
 |false=>
  rw [WI hp] at p6
  simp only at p6
  have e2:=CN h2 _ _ p2a.blk hp
  have h5:=h2
  have l5:s2.r.length≤s1.r.length:=l2
  have p5a:=p2a
  have hrw:List.map CE.enc l++[[.str c0,.sl []]]=(l++[(⟨c0,[]⟩:CE)]).map CE.enc:=by simp [CE.enc]
  (repeat' (first|refine ctQ rfl ?_|((first|refine rgQ mxQ ?_|refine cdQ ?_|(refine AD.upd c1 ?_)|refine AD.det (e2) ?_)<;>try simp -implicitDefEqProofs only [p5.own.cell,go_sem])|fail))
  refine p5a.tok rfl (by simp) (by simp;omega) (by decide) (fun v2 τ2 ho=>?_);simp -implicitDefEqProofs only [ho.own.cells,ho.own.cell,if_true,go_sem]
  rw [hrw] at ho
  have hql:1≤s2.r.length:=A5.2 h5.wf.ne
  obtain ⟨q,rfl⟩:∃m,q=m+1:=⟨q - 1,by omega⟩
  cases hb:s2.is [124] with
  |true=>
   rw [Fw hb] at p6
   have e8:=CU h5 _ τ2 ho.blk hb
   have h8:=h5.adv trivial hb
   have l8:=Am h5.wf
   have ho8:=ho.step s2.adv
   generalize s2.adv=s8 at e8 h8 l8 ho8 p6
   (repeat' (first|refine ctQ rfl ?_|((first|refine rgQ mxQ ?_|refine cdQ ?_|(refine AD.upd e8 ?_))<;>try simp -implicitDefEqProofs only [if_true,go_sem])|fail))
   refine Run.Lg [0,2,3] ?_;simp -implicitDefEqProofs only [go_sem]
   refine ih (s8,_,q,v2,_) ⟨h8,by simp only;omega,by simp only [AA,AG,AI];omega,ho8,p6⟩ (by simp only;omega)
  |false=>
   rw [FP hb] at p6
   have e8:=CN h5 _ τ2 ho.blk hb
   rw [← p6] at hfin
   (repeat' (first|refine ctQ rfl ?_|((first|refine rgQ mxQ ?_|refine cdQ ?_|refine AD.det (e8) ?_)<;>try simp -implicitDefEqProofs only [if_true,go_sem])|fail))
   exact hfin v2 τ2 ho
 |true=>
  rw [WJ hp,GR] at p6
  simp only at p6
  have e2:=CU h2 _ _ p2a.blk hp
  rw [AN] at e2
  have h3:=h2.adv trivial hp
  have l3:=Am h2.wf
  have p3a:=p5.step s2.adv
  generalize s2.adv=s3 at e2 h3 l3 p3a p6
  have c3:=(Tb i L Af (pR i L Af)).pc _ s3 trivial h3 (by omega) p3a.blk
  rw [AN] at c3
  unfold ADO at p6
  have h4:=h3.run (BX (FR Af) [44])
  have l4:=RM.le (BX (FR Af) [44]) h3.wf
  have p4a:=p5.step ((BX (FR Af) [44]).run s3).2
  generalize (BX (FR Af) [44]).run s3=y at c3 h4 l4 p4a p6
  obtain ⟨x3,s4⟩:=y
  simp only at c3 h4 l4 p4a p6
  have c4:=CT h4 [41] _ p4a.blk
  rw [AN] at c4
  have h5:=h4.run (RM.A9 [41])
  have l5:=RM.le (RM.A9 [41]) h4.wf
  have p5a:=p5.step ((RM.A9 [41]).run s4).2
  generalize ((RM.A9 [41]).run s4).2=s5 at c4 h5 l5 p5a p6
  have hrw:List.map CE.enc l++[[.str c0,.sl (x3.map TE.enc)]]=(l++[(⟨c0,x3⟩:CE)]).map CE.enc:=by simp [CE.enc]
  (repeat' (first|refine ctQ rfl ?_|((first|refine rgQ mxQ ?_|refine cdQ ?_|(refine AD.upd c1 ?_)|(refine AD.upd e2 ?_)|(refine AD.upd c3 ?_)|(refine AD.upd c4 ?_))<;>try simp -implicitDefEqProofs only [p5.own.cell,go_sem])|fail))
  refine p5a.tok rfl (by simp) (by simp;omega) (by decide) (fun v2 τ2 ho=>?_);simp -implicitDefEqProofs only [ho.own.cells,ho.own.cell,if_true,go_sem]
  rw [hrw] at ho
  have hql:1≤s5.r.length:=A5.2 h5.wf.ne
  obtain ⟨q,rfl⟩:∃m,q=m+1:=⟨q - 1,by omega⟩
  cases hb:s5.is [124] with
  |true=>
   rw [Fw hb] at p6
   have e8:=CU h5 _ τ2 ho.blk hb
   have h8:=h5.adv trivial hb
   have l8:=Am h5.wf
   have ho8:=ho.step s5.adv
   generalize s5.adv=s8 at e8 h8 l8 ho8 p6
   (repeat' (first|refine ctQ rfl ?_|((first|refine rgQ mxQ ?_|refine cdQ ?_|(refine AD.upd e8 ?_))<;>try simp -implicitDefEqProofs only [if_true,go_sem])|fail))
   refine Run.Lg [0,2,3] ?_;simp -implicitDefEqProofs only [go_sem]
   refine ih (s8,_,q,v2,_) ⟨h8,by simp only;omega,by simp only [AA,AG,AI];omega,ho8,p6⟩ (by simp only;omega)
  |false=>
   rw [FP hb] at p6
   have e8:=CN h5 _ τ2 ho.blk hb
   rw [← p6] at hfin
   (repeat' (first|refine ctQ rfl ?_|((first|refine rgQ mxQ ?_|refine cdQ ?_|refine AD.det (e8) ?_)<;>try simp -implicitDefEqProofs only [if_true,go_sem])|fail))
   exact hfin v2 τ2 ho
theorem wX (i:Nat) (L:List Tok):RPC 31 [.gp i 0] i L Af aK deA:=by
 intro σ s0 g0 h0 l0 b0
 have hf0:=Bo
 have hl0:=h0.suf.length_le
 have hl1:=h0.len
 refine Wo (by simp) ?_
 rw [Ar]
 simp only [aK,BD,BK]
 (have c0:=(Pj i L Af) σ s0 g0 h0 (by omega) b0;have h1:=h0.run (Fv);have l1:=RM.le (Fv) h0.wf;generalize (Fv).run s0=y at c0 h1 l1 ⊢;obtain ⟨x0,s1⟩:=y;simp only at c0 h1 l1 ⊢;have b1:(σ.AH i (rsA L s1)).blk i=some (rsA L s1):=AX)
 cases hp:s1.is [40] with
 |false=>
  rw [WI hp]
  have e2:=CN h1 _ _ b1 hp
  simp only
  (have c1:=(B7 i L Af [61]) (σ.AH i (rsA L s1)) s1 g0 h1 (by omega) b1;rw [AN] at c1;have h2:=h1.run (RM.A9 [61]);have l2:=RM.le (RM.A9 [61]) h1.wf;generalize (RM.A9 [61]).run s1=y at c1 h2 l2 ⊢;obtain ⟨x1,s2⟩:=y;simp only at c1 h2 l2 ⊢;have b2:(σ.AH i (rsA L s2)).blk i=some (rsA L s2):=AX)
  (repeat' (first|refine ctQ rfl ?_|((first|refine rgQ mxQ ?_|refine cdQ ?_|(refine AD.upd c0 ?_)|(refine AD.upd c1 ?_)|refine AD.det (e2) ?_)<;>try simp -implicitDefEqProofs only [go_sem])|fail))
  refine Run.wA (vs:=[]) rfl (AK.le_refl _) ?_
  refine Run.BU ?_
  refine jV _ _ i L x0 [] σ s2 h2 (fun v τ ho=>?_)
  have h4:=h2.run (BX VK [124])
  have l4:=RM.le (BX VK [124]) h2.wf
  generalize (BX VK [124]).run s2=y at ho h4 l4 ⊢
  obtain ⟨x3,s4⟩:=y
  simp only at ho h4 l4 ⊢
  have e4:=CT h4 [59] τ ho.blk
  have ho2:=ho.step ((RM.A9 [59]).run s4).2
  simp only [deA,DE.enc,AB,AE]
  (repeat' (first|refine ctQ rfl ?_|((first|refine rgQ mxQ ?_|refine cdQ ?_|(refine AD.upd e4 ?_)|(refine Run.A2 K9 ho2.le ?_))<;>try simp -implicitDefEqProofs only [ho.own.cell,ho.own.plain,if_true,go_sem])|fail))
 |true=>
  rw [WJ hp,GR,Ig]
  (have c1:=CU h1 [40] (σ.AH i (rsA L s1)) b1 hp;rw [AN] at c1;have h2:=h1.adv (t:=[40]) (by decide) hp;have l2:=Am h1.wf;generalize s1.adv=s2 at c1 h2 l2 ⊢;have b2:(σ.AH i (rsA L s2)).blk i=some (rsA L s2):=by rw [AZ,if_pos rfl])
  (have c2:=(Lh i L Af) (σ.AH i (rsA L s2)) s2 g0 h2 (by omega) b2;rw [AN] at c2;have h3:=h2.run (D9);have l3:=RM.le (D9) h2.wf;generalize (D9).run s2=y at c2 h3 l3 ⊢;obtain ⟨x2,s3⟩:=y;simp only at c2 h3 l3 ⊢;have b3:(σ.AH i (rsA L s3)).blk i=some (rsA L s3):=AX)
  (repeat' (first|refine ctQ rfl ?_|((first|refine rgQ mxQ ?_|refine cdQ ?_|(refine AD.upd c0 ?_)|(refine AD.upd c1 ?_)|(refine AD.upd c2 ?_))<;>try simp -implicitDefEqProofs only [go_sem])|fail))
  refine (RS.nil σ i L s3 _ _).tok rfl (by simp) (by simp) (by decide) (fun v3 τ3 ho=>?_);simp -implicitDefEqProofs only [ho.own.cells,ho.own.cell,if_true,go_sem]
  (repeat' (first|refine ctQ rfl ?_|((first|refine rgQ mxQ ?_|refine cdQ ?_)<;>try simp -implicitDefEqProofs only [ho.own.w4,ho.own.plain,ho.own.dv,if_true,A6,go_sem])|fail))
  rw [A6] at ho
  refine Run.BU ?_
  have hx1:[[DV.str x2]]=[x2].map Br:=rfl
  rw [hx1] at ho
  clear hx1
  refine Run.BZ (α:=RSt×List Str×Nat×AV×AK) (fun _=>put 0 (.gp i 0) (put 2 (.lp 2 0) (put 3 (.lp 3 0) U))) (fun y=>Aq 2 [.d (.str []),.AO,.AO] (Aq 3 [.d (.str x0),y.2.2.2.1,.AO] Ab.E)) (fun y=>y.2.2.2.2) (fun y=>ROk L y.1∧y.1.r.length≤y.2.2.1∧y.2.1.length+y.1.r.length≤17001∧RS σ i L y.1 9 1 (y.2.1.map Br) y.2.2.2.1 y.2.2.2.2∧(B5 D9 [44] y.2.2.1 y.2.1).run y.1=(B5 D9 [44] Af [x2]).run s3) (fun y=>y.1.r.length) ?_ (s3,[x2],Af,v3,τ3) ⟨h3,by simp only;omega,by simp only [AG,AI];omega,ho,rfl⟩
  clear ho v3 τ3
  rintro ⟨s5,vs,q5,v5,τ5⟩ ⟨g1,g3,g4,g5,g6⟩ ih2
  simp only at g1 g3 g4 g5 g6
  have g2:s5.r.length≤Af:=by have:=g1.suf.length_le;omega
  obtain ⟨q5,rfl⟩:∃m,q5=m+1:=⟨q5 - 1,by have:=A5.2 g1.wf.ne;omega⟩
  cases hcc:s5.is [44] with
  |true=>
   rw [Fw hcc] at g6
   have d1:=CU g1 _ τ5 g5.blk hcc
   have g1a:=g1.adv (t:=[44]) trivial hcc
   have hal:=Am g1.wf
   have hst0:=g5.step s5.adv
   generalize s5.adv=s6 at d1 g1a hal hst0 g6
   have d2:=Lh i L Af _ s6 trivial g1a (by omega) hst0.blk
   rw [AN] at d2
   have h1':=g1a.run D9
   have hle:=RM.le D9 g1a.wf
   have hst:=g5.step (D9.run s6).2
   generalize D9.run s6=y at d2 h1' hle g6 hst
   obtain ⟨x6,s7⟩:=y
   simp only at d2 h1' hle g6 hst
   (repeat' (first|refine ctQ rfl ?_|((first|refine rgQ mxQ ?_|refine cdQ ?_|(refine AD.upd d1 ?_)|(refine AD.upd d2 ?_))<;>try simp -implicitDefEqProofs only [g5.own.cell,go_sem])|fail))
   refine hst.tok rfl (by simp) (by simp;omega) (by decide) (fun v2 τ2 ho=>?_);simp -implicitDefEqProofs only [ho.own.cells,ho.own.cell,if_true,go_sem]
   try (repeat' (first|refine ctQ rfl ?_|((first|refine rgQ mxQ ?_|refine cdQ ?_)<;>try simp -implicitDefEqProofs only [ho.own.w4,ho.own.plain,ho.own.dv,if_true,go_sem])|fail))
   refine ih2 (s7,vs++[x6],q5,v2,τ2) ⟨h1',by simp only;omega,by simp only [AA,AG,AI];omega,?_,g6⟩ (by simp only;omega)
   simp only [Ax,AB,AE,Br]
   exact ho
  |false=>
   rw [FP hcc] at g6
   rw [← g6]
   simp only
   have d1:=CN g1 _ τ5 g5.blk hcc
   have d2:=CT g1 [41] τ5 g5.blk
   have g5a:=g5.step ((RM.A9 [41]).run s5).2
   have h5:=g1.run (RM.A9 [41])
   generalize ((RM.A9 [41]).run s5).2=s5b at d2 g5a h5 ⊢
   have b5:(σ.AH i (rsA L s5b)).blk i=some (rsA L s5b):=AX
   have d3:=CT h5 [61] _ b5
   rw [AN] at d3
   have h2:=h5.run (RM.A9 [61])
   generalize ((RM.A9 [61]).run s5b).2=s2 at d3 h2 ⊢
   clear ih2
   (repeat' (first|(refine Run.wA g5.own.plain g5a.le ?_)|refine ctQ rfl ?_|((first|refine rgQ mxQ ?_|refine cdQ ?_|(refine AD.upd d2 ?_)|(refine AD.upd d3 ?_)|refine AD.det (d1) ?_)<;>try simp -implicitDefEqProofs only [go_sem])|fail))
   refine Run.BU ?_
   refine jV _ _ i L x0 vs σ s2 h2 (fun v τ ho=>?_)
   have h4:=h2.run (BX VK [124])
   have l4:=RM.le (BX VK [124]) h2.wf
   generalize (BX VK [124]).run s2=y at ho h4 l4 ⊢
   obtain ⟨x3,s4⟩:=y
   simp only at ho h4 l4 ⊢
   have e4:=CT h4 [59] τ ho.blk
   have ho2:=ho.step ((RM.A9 [59]).run s4).2
   simp only [deA,DE.enc,AB,AE]
   (repeat' (first|refine ctQ rfl ?_|((first|refine rgQ mxQ ?_|refine cdQ ?_|(refine AD.upd e4 ?_)|(refine Run.A2 K9 ho2.le ?_))<;>try simp -implicitDefEqProofs only [ho.own.cell,ho.own.plain,if_true,go_sem])|fail))
end Go.Ab
namespace Go.Ab
open Go.Proofs
theorem eI (lv:Nat) (t:Str):∀n k,k+n≤9→Kh lv t n k≤8
 |0,k,_=>by rw [Kh];omega
 |n+1,k,h=>by
  rw [Kh];split
  · omega
  · exact eI lv t n (k+1) (by omega)
theorem vZ (lv:Nat) (t:Str):opR lv t≤8:=eI lv t 8 1 (by omega)
theorem eJ {lv:Nat} {t:Str}:∀ {n k:Nat},Kh lv t n k≠0→∃x,x≠[]∧(t==x)=true
 |0,k,h=>by rw [Kh] at h;exact absurd rfl h
 |n+1,k,h=>by
  rw [Kh] at h;split at h
  · rename_i hh
    refine ⟨_,?_,hh.2⟩
    unfold opT sE
    split<;>simp
  · exact eJ h
theorem mR {lv:Nat} {t:Str} (h:opR lv t≠0):∃x,x≠[]∧(t==x)=true:=eJ h
theorem AAD {E:PM Ex} {n:Nat} {a:Ex} {s:PSt} (hc:opR 3 s.hd.text≠0):(P1 E (n+1) a).run s=(P1 E n (E1 ((opR 3 s.hd.text:Nat):Int) a ((VE E).run s.adv).1)).run ((VE E).run s.adv).2:=by
 rw [P1]
 simp only [Hn,run_bind]
 rw [AE5] at hc ⊢
 cases h0:s.hd.text==[42] with
 |true=>simp
 |false=>
 cases h1:s.hd.text==[47] with
 |true=>simp
 |false=>
 cases h2:s.hd.text==[37] with
 |true=>simp
 |false=>
 simp [h0,h1,h2] at hc
theorem AAC {E:PM Ex} {n:Nat} {a:Ex} {s:PSt} (hc:opR 3 s.hd.text=0):(P1 E (n+1) a).run s=(a,s):=by
 rw [P1]
 simp only [Hn,run_pure]
 rw [AE5] at hc
 cases h0:s.hd.text==[42] with
 |true=>simp [h0] at hc
 |false=>
 cases h1:s.hd.text==[47] with
 |true=>simp [h0,h1] at hc
 |false=>
 cases h2:s.hd.text==[37] with
 |true=>simp [h0,h1,h2] at hc
 |false=>
 simp
set_option maxHeartbeats 2000000 in
theorem pM (i:Nat) {L:List Tok} (hN:NOk L) (n:Nat) {E:PM Ex} (hE:PC 131 [.gp i 0] i L n E exA):PC 197 [.gp i 0] i L (n+1) (OR E) exA:=by
 intro σ s0 g0 h0 l0 b0
 refine Sp (by simp) ?_
 rw [Ar]
 simp only [OR,run_bind]
 (have c0:=(tP i hN n hE) σ s0 g0 h0 (by omega) b0;have h1:=h0.run (VE E);have l1:=PM.le (VE E) h0.wf;generalize (VE E).run s0=y at c0 h1 l1 ⊢;obtain ⟨x0,s1⟩:=y;simp only at c0 h1 l1 ⊢;have b1:(σ.AH i (psA L s1)).blk i=some (psA L s1):=AX;obtain ⟨o0,n0,u0,ns0,ks0,al0⟩:=x0;simp only [exA,Ex.AS,AB,AE] at c0 ⊢)
 have c1:=La h1 3 (σ.AH i (psA L s1)) b1
 rw [AN] at c1
 (repeat' (first|refine ctQ rfl ?_|((first|refine rgQ mxQ ?_|refine cdQ ?_|(refine AD.upd c0 ?_)|(refine AD.upd c1 ?_))<;>try simp -implicitDefEqProofs only [go_sem])|fail))
 rw [F2]
 refine Run.BU ?_
 have hf0:=Bo
 have hl0:=h0.suf.length_le
 have hl1:=h0.len
 refine Run.BZ (α:=PSt×Ex×Nat) (fun y=>put 0 (.gp i 0) (put 2 (.lp 2 0) (put 3 (.lp 3 0) (put 4 (.d (.int .i64 ((opR 3 y.1.hd.text:Nat):Int))) U)))) (fun y=>Aq 2 [.d (.int .i64 0),.d (.str []),.d (.int .i64 0),.AO,.AO,.AO] (Aq 3 (exC y.2.1) Ab.E)) (fun y=>if opR 3 y.1.hd.text=0 then σ.AH i (psA L y.1) else σ.AH i (psA L y.1.adv)) (fun y=>POk L y.1∧y.1.r.length≤n+1∧y.1.r.length≤y.2.2∧(P1 E y.2.2 y.2.1).run y.1=(P1 E Af (Ex.mk o0 n0 u0 ns0 ks0 al0)).run s1) (fun y=>y.1.r.length) ?_ (s1,(Ex.mk o0 n0 u0 ns0 ks0 al0),Af) ⟨h1,by simp only;omega,by simp only;omega,rfl⟩
 rintro ⟨s2,a,q⟩ ⟨p1,p2,p3,p4⟩ ih
 simp only at p1 p2 p3 p4
 have b2:(σ.AH i (psA L s2)).blk i=some (psA L s2):=AX
 obtain ⟨q,rfl⟩:∃m,q=m+1:=⟨q - 1,by have:=A5.2 p1.wf.ne;omega⟩
 obtain ⟨o,nm,u,ns,ks,al⟩:=a
 simp only [← F2]
 by_cases hc:opR 3 s2.hd.text=0
 · rw [AAC hc] at p4
   rw [← p4]
   have hne:(((opR 3 s2.hd.text:Nat):Int) != 0)=false:=by rw [hc];rfl
   simp only [Ex.AS,AB,AE,if_pos hc]
   (repeat' (first|refine ctQ rfl ?_|((first|refine rgQ mxQ ?_|refine cdQ ?_|refine Run.A2 L3 (AK.le_refl _) ?_)<;>try simp -implicitDefEqProofs only [hne,go_sem])|fail))
 · rw [AAD hc] at p4
   have hne:(((opR 3 s2.hd.text:Nat):Int) != 0)=true:=by simp;exact hc
   simp only [if_neg hc]
   have h3:POk L s2.adv:=by
    rcases (mR hc) with ⟨t,ht,he⟩
    exact p1.adv ht he
   have l3:=BW p1.wf
   have hop:=vZ 3 s2.hd.text
   generalize opR 3 s2.hd.text=w at p4 hne hop ⊢
   generalize s2.adv=s3 at p4 h3 l3 ⊢
   have b3:(σ.AH i (psA L s3)).blk i=some (psA L s3):=AX
   (have c3:=(tP i hN n hE) (σ.AH i (psA L s3)) s3 g0 h3 (by omega) b3;rw [AN] at c3;have h4:=h3.run (VE E);have l4:=PM.le (VE E) h3.wf;generalize (VE E).run s3=y at c3 h4 l4 p4 ⊢;obtain ⟨x3,s4⟩:=y;simp only at c3 h4 l4 p4 ⊢;have b4:(σ.AH i (psA L s4)).blk i=some (psA L s4):=AX;obtain ⟨o3,n3,u3,ns3,ks3,al3⟩:=x3;simp only [exA,Ex.AS,AB,AE] at c3 ⊢)
   have c4:=W9 (w:Int) (.mk o nm u ns ks al) (Ex.mk o3 n3 u3 ns3 ks3 al3) (σ.AH i (psA L s4))
   simp only [exA,Ex.AS,E1,exN,AB,AE] at c4
   have c5:=La h4 3 (σ.AH i (psA L s4)) b4
   rw [AN] at c5
   (repeat' (first|refine ctQ rfl ?_|((first|refine rgQ mxQ ?_|refine cdQ ?_|(refine AD.upd c3 ?_)|(refine AD.upd c5 ?_)|refine AD.det (c4) ?_)<;>try simp -implicitDefEqProofs only [hne,go_sem])|fail))
   have hx:=F2 13 [] (w:Int) [] [.mk o nm u ns ks al,(Ex.mk o3 n3 u3 ns3 ks3 al3)] []
   simp only [Ex.AS,AB,AE] at hx
   rw [hx]
   exact ih (s4,E1 (w:Int) (.mk o nm u ns ks al) (Ex.mk o3 n3 u3 ns3 ks3 al3),q) ⟨h4,by simp only;omega,by simp only;omega,p4⟩ (by simp only;omega)
theorem ADT {E:PM Ex} {n:Nat} {a:Ex} {s:PSt} (hc:opR 2 s.hd.text≠0):(Yh E (n+1) a).run s=(Yh E n (E1 ((opR 2 s.hd.text:Nat):Int) a ((OR E).run s.adv).1)).run ((OR E).run s.adv).2:=by
 rw [Yh]
 simp only [Hn,run_bind]
 rw [AE4] at hc ⊢
 cases h0:s.hd.text==[43] with
 |true=>simp
 |false=>
 cases h1:s.hd.text==[45] with
 |true=>simp
 |false=>
 simp [h0,h1] at hc
theorem ADS {E:PM Ex} {n:Nat} {a:Ex} {s:PSt} (hc:opR 2 s.hd.text=0):(Yh E (n+1) a).run s=(a,s):=by
 rw [Yh]
 simp only [Hn,run_pure]
 rw [AE4] at hc
 cases h0:s.hd.text==[43] with
 |true=>simp [h0] at hc
 |false=>
 cases h1:s.hd.text==[45] with
 |true=>simp [h0,h1] at hc
 |false=>
 simp
set_option maxHeartbeats 2000000 in
theorem xS (i:Nat) {L:List Tok} (hN:NOk L) (n:Nat) {E:PM Ex} (hE:PC 131 [.gp i 0] i L n E exA):PC 186 [.gp i 0] i L (n+1) (Nu E) exA:=by
 intro σ s0 g0 h0 l0 b0
 refine Tw (by simp) ?_
 rw [Ar]
 simp only [Nu,run_bind]
 (have c0:=(pM i hN n hE) σ s0 g0 h0 (by omega) b0;have h1:=h0.run (OR E);have l1:=PM.le (OR E) h0.wf;generalize (OR E).run s0=y at c0 h1 l1 ⊢;obtain ⟨x0,s1⟩:=y;simp only at c0 h1 l1 ⊢;have b1:(σ.AH i (psA L s1)).blk i=some (psA L s1):=AX;obtain ⟨o0,n0,u0,ns0,ks0,al0⟩:=x0;simp only [exA,Ex.AS,AB,AE] at c0 ⊢)
 have c1:=La h1 2 (σ.AH i (psA L s1)) b1
 rw [AN] at c1
 (repeat' (first|refine ctQ rfl ?_|((first|refine rgQ mxQ ?_|refine cdQ ?_|(refine AD.upd c0 ?_)|(refine AD.upd c1 ?_))<;>try simp -implicitDefEqProofs only [go_sem])|fail))
 rw [F2]
 refine Run.BU ?_
 have hf0:=Bo
 have hl0:=h0.suf.length_le
 have hl1:=h0.len
 refine Run.BZ (α:=PSt×Ex×Nat) (fun y=>put 0 (.gp i 0) (put 2 (.lp 2 0) (put 3 (.lp 3 0) (put 4 (.d (.int .i64 ((opR 2 y.1.hd.text:Nat):Int))) U)))) (fun y=>Aq 2 [.d (.int .i64 0),.d (.str []),.d (.int .i64 0),.AO,.AO,.AO] (Aq 3 (exC y.2.1) Ab.E)) (fun y=>if opR 2 y.1.hd.text=0 then σ.AH i (psA L y.1) else σ.AH i (psA L y.1.adv)) (fun y=>POk L y.1∧y.1.r.length≤n+1∧y.1.r.length≤y.2.2∧(Yh E y.2.2 y.2.1).run y.1=(Yh E Af (Ex.mk o0 n0 u0 ns0 ks0 al0)).run s1) (fun y=>y.1.r.length) ?_ (s1,(Ex.mk o0 n0 u0 ns0 ks0 al0),Af) ⟨h1,by simp only;omega,by simp only;omega,rfl⟩
 rintro ⟨s2,a,q⟩ ⟨p1,p2,p3,p4⟩ ih
 simp only at p1 p2 p3 p4
 have b2:(σ.AH i (psA L s2)).blk i=some (psA L s2):=AX
 obtain ⟨q,rfl⟩:∃m,q=m+1:=⟨q - 1,by have:=A5.2 p1.wf.ne;omega⟩
 obtain ⟨o,nm,u,ns,ks,al⟩:=a
 simp only [← F2]
 by_cases hc:opR 2 s2.hd.text=0
 · rw [ADS hc] at p4
   rw [← p4]
   have hne:(((opR 2 s2.hd.text:Nat):Int) != 0)=false:=by rw [hc];rfl
   simp only [Ex.AS,AB,AE,if_pos hc]
   (repeat' (first|refine ctQ rfl ?_|((first|refine rgQ mxQ ?_|refine cdQ ?_|refine Run.A2 M5 (AK.le_refl _) ?_)<;>try simp -implicitDefEqProofs only [hne,go_sem])|fail))
 · rw [ADT hc] at p4
   have hne:(((opR 2 s2.hd.text:Nat):Int) != 0)=true:=by simp;exact hc
   simp only [if_neg hc]
   have h3:POk L s2.adv:=by
    rcases (mR hc) with ⟨t,ht,he⟩
    exact p1.adv ht he
   have l3:=BW p1.wf
   have hop:=vZ 2 s2.hd.text
   generalize opR 2 s2.hd.text=w at p4 hne hop ⊢
   generalize s2.adv=s3 at p4 h3 l3 ⊢
   have b3:(σ.AH i (psA L s3)).blk i=some (psA L s3):=AX
   (have c3:=(pM i hN n hE) (σ.AH i (psA L s3)) s3 g0 h3 (by omega) b3;rw [AN] at c3;have h4:=h3.run (OR E);have l4:=PM.le (OR E) h3.wf;generalize (OR E).run s3=y at c3 h4 l4 p4 ⊢;obtain ⟨x3,s4⟩:=y;simp only at c3 h4 l4 p4 ⊢;have b4:(σ.AH i (psA L s4)).blk i=some (psA L s4):=AX;obtain ⟨o3,n3,u3,ns3,ks3,al3⟩:=x3;simp only [exA,Ex.AS,AB,AE] at c3 ⊢)
   have c4:=W9 (w:Int) (.mk o nm u ns ks al) (Ex.mk o3 n3 u3 ns3 ks3 al3) (σ.AH i (psA L s4))
   simp only [exA,Ex.AS,E1,exN,AB,AE] at c4
   have c5:=La h4 2 (σ.AH i (psA L s4)) b4
   rw [AN] at c5
   (repeat' (first|refine ctQ rfl ?_|((first|refine rgQ mxQ ?_|refine cdQ ?_|(refine AD.upd c3 ?_)|(refine AD.upd c5 ?_)|refine AD.det (c4) ?_)<;>try simp -implicitDefEqProofs only [hne,go_sem])|fail))
   have hx:=F2 13 [] (w:Int) [] [.mk o nm u ns ks al,(Ex.mk o3 n3 u3 ns3 ks3 al3)] []
   simp only [Ex.AS,AB,AE] at hx
   rw [hx]
   exact ih (s4,E1 (w:Int) (.mk o nm u ns ks al) (Ex.mk o3 n3 u3 ns3 ks3 al3),q) ⟨h4,by simp only;omega,by simp only;omega,p4⟩ (by simp only;omega)
end Go.Ab
namespace Go.Ab
open Go.Proofs
theorem Run.ADJ {cx:Cx} {KK:AV→AK→Prop} {k:List CI} {F:Fm} {q0 q:Nat} {A cs:List AV} {σ σ':AK} (hσ:σ'.le σ) (h:Run cx KK k F (Aq q0 A (Aq q (AV.E7 cs) E)) σ'):Run cx KK k F (Aq q0 A (Aq q cs E)) σ:=by
 refine Run.bZ (σ':=σ') (fun _=>.inl rfl) (fun _ _ h=>h) hσ (Run.gH (fun q' cs' hq=>?_) h)
 by_cases e2:q'=q0
 · subst e2
   have:cs'=A:=by simpa [Aq] using hq.symm
   exact ⟨A,by simp [Aq],.inl this⟩
 · by_cases e3:q'=q
   · subst e3
     have:cs'=AV.E7 cs:=by simpa [Aq,e2] using hq.symm
     exact ⟨cs,by simp [Aq,e2],.inr this⟩
   · simp [Aq,e2,e3,E] at hq
theorem fS:Av Tryz.prog 172=true:=by kernel_rfl
theorem fT:Av Tryz.prog 126=true:=by kernel_rfl
theorem ACZ:Av Tryz.prog 171=true:=by kernel_rfl
theorem AC0:Av Tryz.prog 129=true:=by kernel_rfl
theorem uG (E:PM Ex) (s:PSt):(WB E).run s=if opR 1 ((Nu E).run s).2.hd.text=0 then (Nu E).run s else (E1 ((opR 1 ((Nu E).run s).2.hd.text:Nat):Int) ((Nu E).run s).1 ((Nu E).run ((Nu E).run s).2.adv).1,((Nu E).run ((Nu E).run s).2.adv).2):=by
 simp only [WB,run_bind,Hn,run_pure]
 generalize (Nu E).run s=y
 obtain ⟨a,s1⟩:=y
 simp only
 rw [AF0]
 cases h0:s1.hd.text==[60] with
 |true=>simp
 |false=>
 cases h1:s1.hd.text==[60,61] with
 |true=>simp
 |false=>
 cases h2:s1.hd.text==[61,61] with
 |true=>simp
 |false=>simp
theorem yP (i:Nat) {L:List Tok} (hN:NOk L) (n:Nat) {E:PM Ex} (hE:PC 131 [.gp i 0] i L n E exA):PC 173 [.gp i 0] i L (n+1) (WB E) exA:=by
 intro σ s0 g0 h0 l0 b0
 refine Si (by simp) ?_
 rw [Ar,uG]
 (have c0:=(xS i hN n hE) σ s0 g0 h0 (by omega) b0;have h1:=h0.run (Nu E);have l1:=PM.le (Nu E) h0.wf;generalize (Nu E).run s0=y at c0 h1 l1 ⊢;obtain ⟨x0,s1⟩:=y;simp only at c0 h1 l1 ⊢;have b1:(σ.AH i (psA L s1)).blk i=some (psA L s1):=AX;obtain ⟨o0,n0,u0,ns0,ks0,al0⟩:=x0;simp only [exA,Ex.AS,AB,AE] at c0 ⊢)
 have c1:=La h1 1 (σ.AH i (psA L s1)) b1
 rw [AN] at c1
 by_cases hc:opR 1 s1.hd.text=0
 · have hne:(((opR 1 s1.hd.text:Nat):Int) != 0)=false:=by rw [hc];rfl
   rw [if_pos hc] at c1 ⊢
   simp only [Ex.AS,AB,AE]
   (repeat' (first|refine ctQ rfl ?_|((first|refine rgQ mxQ ?_|refine cdQ ?_|refine Run.A2 HZ (AK.le_refl _) ?_|(refine AD.upd c0 ?_)|(refine AD.upd c1 ?_))<;>try simp -implicitDefEqProofs only [hne,go_sem])|fail))
 · have hne:(((opR 1 s1.hd.text:Nat):Int) != 0)=true:=by simp;exact hc
   rw [if_neg hc] at c1 ⊢
   have h2:POk L s1.adv:=by
    rcases (mR hc) with ⟨t,ht,he⟩
    exact h1.adv ht he
   have l2:=BW h1.wf
   generalize opR 1 s1.hd.text=w at c1 hne ⊢
   generalize s1.adv=s2 at c1 h2 l2 ⊢
   have b2:(σ.AH i (psA L s2)).blk i=some (psA L s2):=AX
   (have c2:=(xS i hN n hE) (σ.AH i (psA L s2)) s2 g0 h2 (by omega) b2;rw [AN] at c2;have h3:=h2.run (Nu E);have l3:=PM.le (Nu E) h2.wf;generalize (Nu E).run s2=y at c2 h3 l3 ⊢;obtain ⟨x2,s3⟩:=y;simp only at c2 h3 l3 ⊢;have b3:(σ.AH i (psA L s3)).blk i=some (psA L s3):=AX;obtain ⟨o2,n2,u2,ns2,ks2,al2⟩:=x2;simp only [exA,Ex.AS,AB,AE] at c2 ⊢)
   have c4:=W9 (w:Int) (Ex.mk o0 n0 u0 ns0 ks0 al0) (Ex.mk o2 n2 u2 ns2 ks2 al2) (σ.AH i (psA L s3))
   simp only [exA,Ex.AS,E1,exN,AB,AE] at c4 ⊢
   (repeat' (first|refine ctQ rfl ?_|((first|refine rgQ mxQ ?_|refine cdQ ?_|refine Run.A2 HZ (AK.le_refl _) ?_|(refine AD.upd c0 ?_)|(refine AD.upd c1 ?_)|(refine AD.upd c2 ?_)|refine AD.det (c4) ?_)<;>try simp -implicitDefEqProofs only [hne,go_sem])|fail))
set_option maxHeartbeats 2000000 in
theorem AC7 (i:Nat) (L:List Tok) (n:Nat) {E:PM Ex} (hE:PC 131 [.gp i 0] i L n E exA):PC 169 [.gp i 0] i L n (jJ E) exA:=by
 intro σ s0 g0 h0 l0 b0
 refine Tv (by simp) ?_
 rw [Ar]
 simp only [jJ,Hn]
 cases t0:s0.hd.text==[40] with
 |true=>
  simp only [if_true,run_bind,run_pure,exA,Ex.AS,AB,AE]
  (have c0:=DO h0 [40] σ b0 t0;have h1:=h0.adv (t:=[40]) (by decide) t0;have l1:=BW h0.wf;generalize s0.adv=s1 at c0 h1 l1 ⊢;have b1:(σ.AH i (psA L s1)).blk i=some (psA L s1):=by rw [AZ,if_pos rfl])
  (have c1:=(T3 i L n) (σ.AH i (psA L s1)) s1 g0 h1 (by omega) b1;rw [AN] at c1;have h2:=h1.run (FJ);have l2:=PM.le (FJ) h1.wf;generalize (FJ).run s1=y at c1 h2 l2 ⊢;obtain ⟨x1,s2⟩:=y;simp only at c1 h2 l2 ⊢;have b2:(σ.AH i (psA L s2)).blk i=some (psA L s2):=AX)
  (have c2:=(DP i L n [44] (by decide)) (σ.AH i (psA L s2)) s2 g0 h2 (by omega) b2;rw [AN] at c2;have h3:=h2.run (PM.exp [44] (by decide));have l3:=PM.le (PM.exp [44] (by decide)) h2.wf;generalize (PM.exp [44] (by decide)).run s2=y at c2 h3 l3 ⊢;obtain ⟨x2,s3⟩:=y;simp only at c2 h3 l3 ⊢;have b3:(σ.AH i (psA L s3)).blk i=some (psA L s3):=AX)
  (have d3:=fun tk:Nat=>(Hm i L n fS (T3 i L n)).pc ((σ.AH i (psA L s3)).CO tk) s3 g0 h3 (by omega) (by rw [Ep];exact b3);have c3:=(Hm i L n fS (T3 i L n)).pc (σ.AH i (psA L s3)) s3 g0 h3 (by omega) b3;rw [AN] at c3;have h4:=h3.run (listed FJ);have l4:=PM.le (listed FJ) h3.wf;have n3:=Q1 (read:=FJ) h3.wf;generalize (listed FJ).run s3=y at c3 d3 h4 l4 n3 ⊢;obtain ⟨x3,s4⟩:=y;simp only at c3 d3 h4 l4 n3 ⊢;have q3:=h0.suf.length_le;have q3':=h0.len)
  have b4:(σ.AH i (psA L s4)).blk i=some (psA L s4):=AX
  (have c4:=(DP i L n [61] (by decide)) (σ.AH i (psA L s4)) s4 g0 h4 (by omega) b4;rw [AN] at c4;have h5:=h4.run (PM.exp [61] (by decide));have l5:=PM.le (PM.exp [61] (by decide)) h4.wf;generalize (PM.exp [61] (by decide)).run s4=y at c4 h5 l5 ⊢;obtain ⟨x4,s5⟩:=y;simp only at c4 h5 l5 ⊢;have b5:(σ.AH i (psA L s5)).blk i=some (psA L s5):=AX)
  (have c5:=hE (σ.AH i (psA L s5)) s5 g0 h5 (by omega) b5;rw [AN] at c5;have h6:=h5.run (E);have l6:=PM.le (E) h5.wf;generalize (E).run s5=y at c5 h6 l6 ⊢;obtain ⟨x5,s6⟩:=y;simp only at c5 h6 l6 ⊢;have b6:(σ.AH i (psA L s6)).blk i=some (psA L s6):=AX;obtain ⟨o5,n5,u5,ns5,ks5,al5⟩:=x5;simp only [exA,Ex.AS,AB,AE] at c5 ⊢)
  (have c6:=(DP i L n [105,110] (by decide)) (σ.AH i (psA L s6)) s6 g0 h6 (by omega) b6;rw [AN] at c6;have h7:=h6.run (PM.exp [105,110] (by decide));have l7:=PM.le (PM.exp [105,110] (by decide)) h6.wf;generalize (PM.exp [105,110] (by decide)).run s6=y at c6 h7 l7 ⊢;obtain ⟨x6,s7⟩:=y;simp only at c6 h7 l7 ⊢;have b7:(σ.AH i (psA L s7)).blk i=some (psA L s7):=AX)
  (have c7:=hE (σ.AH i (psA L s7)) s7 g0 h7 (by omega) b7;rw [AN] at c7;have h8:=h7.run (E);have l8:=PM.le (E) h7.wf;generalize (E).run s7=y at c7 h8 l8 ⊢;obtain ⟨x7,s8⟩:=y;simp only at c7 h8 l8 ⊢;have b8:(σ.AH i (psA L s8)).blk i=some (psA L s8):=AX;obtain ⟨o7,n7,u7,ns7,ks7,al7⟩:=x7;simp only [exA,Ex.AS,AB,AE] at c7 ⊢)
  (repeat' (first|refine ctQ rfl ?_|((first|refine rgQ mxQ ?_|refine cdQ ?_|(refine AD.upd c0 ?_)|(refine AD.upd c1 ?_)|(refine AD.upd c2 ?_))<;>try simp -implicitDefEqProofs only [go_sem])|fail))
  refine Fh.own rfl (by decide) (fun tk htk=>?_);simp -implicitDefEqProofs only [go_sem]
  refine AD.upd (d3 tk) ?_;simp -implicitDefEqProofs only [go_sem]
  (apply LS.tok (LS.vL htk s4);rfl;exact (Ji _ _ (fun _=>rfl));(simp only [AJ,AG,AI];omega);decide;intro v2 τ2 ho);simp -implicitDefEqProofs only [ho.own.cells,ho.own.cell,if_true,go_sem]
  refine Run.ADJ ho.le ?_
  simp only [AV.E7,AV.plain,ho.own.plain]
  (repeat' (first|refine ctQ rfl ?_|((first|refine rgQ mxQ ?_|refine cdQ ?_|refine Run.A2 Hy (AK.le_refl _) ?_|(refine AD.upd c4 ?_)|(refine AD.upd c5 ?_)|(refine AD.upd c6 ?_)|(refine AD.upd c7 ?_))<;>try simp -implicitDefEqProofs only [go_sem])|fail))
  rfl
 |false=>
  have f0:=DN h0 _ σ b0 t0
  simp only [if_false,AL,run_bind,run_pure,exA,Ex.AS,AB,AE]
  (have c0:=(T3 i L n) σ s0 g0 h0 (by omega) b0;have h1:=h0.run (FJ);have l1:=PM.le (FJ) h0.wf;generalize (FJ).run s0=y at c0 h1 l1 ⊢;obtain ⟨x0,s1⟩:=y;simp only at c0 h1 l1 ⊢;have b1:(σ.AH i (psA L s1)).blk i=some (psA L s1):=AX)
  (have c1:=(DP i L n [61] (by decide)) (σ.AH i (psA L s1)) s1 g0 h1 (by omega) b1;rw [AN] at c1;have h2:=h1.run (PM.exp [61] (by decide));have l2:=PM.le (PM.exp [61] (by decide)) h1.wf;generalize (PM.exp [61] (by decide)).run s1=y at c1 h2 l2 ⊢;obtain ⟨x1,s2⟩:=y;simp only at c1 h2 l2 ⊢;have b2:(σ.AH i (psA L s2)).blk i=some (psA L s2):=AX)
  (have c2:=hE (σ.AH i (psA L s2)) s2 g0 h2 (by omega) b2;rw [AN] at c2;have h3:=h2.run (E);have l3:=PM.le (E) h2.wf;generalize (E).run s2=y at c2 h3 l3 ⊢;obtain ⟨x2,s3⟩:=y;simp only at c2 h3 l3 ⊢;have b3:(σ.AH i (psA L s3)).blk i=some (psA L s3):=AX;obtain ⟨o2,n2,u2,ns2,ks2,al2⟩:=x2;simp only [exA,Ex.AS,AB,AE] at c2 ⊢)
  (have c3:=(DP i L n [105,110] (by decide)) (σ.AH i (psA L s3)) s3 g0 h3 (by omega) b3;rw [AN] at c3;have h4:=h3.run (PM.exp [105,110] (by decide));have l4:=PM.le (PM.exp [105,110] (by decide)) h3.wf;generalize (PM.exp [105,110] (by decide)).run s3=y at c3 h4 l4 ⊢;obtain ⟨x3,s4⟩:=y;simp only at c3 h4 l4 ⊢;have b4:(σ.AH i (psA L s4)).blk i=some (psA L s4):=AX)
  (have c4:=hE (σ.AH i (psA L s4)) s4 g0 h4 (by omega) b4;rw [AN] at c4;have h5:=h4.run (E);have l5:=PM.le (E) h4.wf;generalize (E).run s4=y at c4 h5 l5 ⊢;obtain ⟨x4,s5⟩:=y;simp only at c4 h5 l5 ⊢;have b5:(σ.AH i (psA L s5)).blk i=some (psA L s5):=AX;obtain ⟨o4,n4,u4,ns4,ks4,al4⟩:=x4;simp only [exA,Ex.AS,AB,AE] at c4 ⊢)
  (repeat' (first|refine ctQ rfl ?_|((first|refine rgQ mxQ ?_|refine cdQ ?_|refine Run.A2 Hy (AK.le_refl _) ?_|(refine AD.upd c0 ?_)|(refine AD.upd c1 ?_)|(refine AD.upd c2 ?_)|(refine AD.upd c3 ?_)|(refine AD.upd c4 ?_)|refine AD.det (f0) ?_)<;>try simp -implicitDefEqProofs only [go_sem])|fail))
theorem ACG (i:Nat) (L:List Tok) (n:Nat) {E:PM Ex} (hE:PC 131 [.gp i 0] i L n E exA):PC 171 [.gp i 0] i L n (jH E) alA:=by
 intro σ s0 g0 h0 l0 b0
 refine Tr (by simp) ?_
 rw [Ar]
 simp only [jH,run_bind,run_pure]
 (have c0:=(TX i L n) σ s0 g0 h0 (by omega) b0;have h1:=h0.run (Dx);have l1:=PM.le (Dx) h0.wf;generalize (Dx).run s0=y at c0 h1 l1 ⊢;obtain ⟨x0,s1⟩:=y;simp only at c0 h1 l1 ⊢;have b1:(σ.AH i (psA L s1)).blk i=some (psA L s1):=AX)
 (have c1:=((PZ i L n fS (T3 i L n)).pc.mono (Nat.le_succ n)) (σ.AH i (psA L s1)) s1 g0 h1 (by omega) b1;rw [AN] at c1;have h2:=h1.run (If FJ);have l2:=PM.le (If FJ) h1.wf;generalize (If FJ).run s1=y at c1 h2 l2 ⊢;obtain ⟨x1,s2⟩:=y;simp only at c1 h2 l2 ⊢;have b2:(σ.AH i (psA L s2)).blk i=some (psA L s2):=AX)
 (have c2:=(DP i L n [45,62] (by decide)) (σ.AH i (psA L s2)) s2 g0 h2 (by omega) b2;rw [AN] at c2;have h3:=h2.run (PM.exp [45,62] (by decide));have l3:=PM.le (PM.exp [45,62] (by decide)) h2.wf;generalize (PM.exp [45,62] (by decide)).run s2=y at c2 h3 l3 ⊢;obtain ⟨x2,s3⟩:=y;simp only at c2 h3 l3 ⊢;have b3:(σ.AH i (psA L s3)).blk i=some (psA L s3):=AX)
 (have c3:=hE (σ.AH i (psA L s3)) s3 g0 h3 (by omega) b3;rw [AN] at c3;have h4:=h3.run (E);have l4:=PM.le (E) h3.wf;generalize (E).run s3=y at c3 h4 l4 ⊢;obtain ⟨x3,s4⟩:=y;simp only at c3 h4 l4 ⊢;have b4:(σ.AH i (psA L s4)).blk i=some (psA L s4):=AX;obtain ⟨o3,n3,u3,ns3,ks3,al3⟩:=x3;simp only [exA,Ex.AS,AB,AE] at c3 ⊢)
 simp only [alA,Al.AS,AB,AE]
 (repeat' (first|refine ctQ rfl ?_|((first|refine rgQ mxQ ?_|refine cdQ ?_|refine Run.A2 M1 (AK.le_refl _) ?_|(refine AD.upd c0 ?_)|(refine AD.upd c1 ?_)|(refine AD.upd c2 ?_)|(refine AD.upd c3 ?_))<;>try simp -implicitDefEqProofs only [go_sem])|fail))
set_option maxHeartbeats 4000000 in
theorem oS (i:Nat) {L:List Tok} (hN:NOk L):∀n,PC 131 [.gp i 0] i L n (C0 n) exA
 |0=>fun σ s _ h1 h2 h3=>by have:=A5.2 h1.wf.ne;omega
 |n+1=>by
  have ih:=oS i hN n
  intro σ s0 g0 h0 l0 b0
  refine Sk (by simp) ?_
  rw [Ar,C0]
  simp only [Hn]
  cases t1:s0.hd.text==[108,101,116] with
  |true=>
   simp only [if_true]
   (have c0:=DO h0 [108,101,116] σ b0 t1;have h1:=h0.adv (t:=[108,101,116]) (by decide) t1;have l1:=BW h0.wf;generalize s0.adv=s1 at c0 h1 l1 ⊢;have b1:(σ.AH i (psA L s1)).blk i=some (psA L s1):=by rw [AZ,if_pos rfl])
   (have c1:=(AC7 i L n ih) (σ.AH i (psA L s1)) s1 g0 h1 (by omega) b1;rw [AN] at c1;have h2:=h1.run (jJ (C0 n));have l2:=PM.le (jJ (C0 n)) h1.wf;generalize (jJ (C0 n)).run s1=y at c1 h2 l2 ⊢;obtain ⟨x1,s2⟩:=y;simp only at c1 h2 l2 ⊢;have b2:(σ.AH i (psA L s2)).blk i=some (psA L s2):=AX;obtain ⟨o1,n1,u1,ns1,ks1,al1⟩:=x1;simp only [exA,Ex.AS,AB,AE] at c1 ⊢)
   (repeat' (first|refine ctQ rfl ?_|((first|refine rgQ mxQ ?_|refine cdQ ?_|refine Run.A2 C5 (AK.le_refl _) ?_|(refine AD.upd c0 ?_)|(refine AD.upd c1 ?_))<;>try simp -implicitDefEqProofs only [go_sem])|fail))
  |false=>
  have f1:=DN h0 _ σ b0 t1
  cases t2:s0.hd.text==[105,102] with
  |true=>
   simp only [if_true,if_false,AL,run_bind,run_pure,exA,exN,Ex.AS,AB,AE]
   (have c0:=DO h0 [105,102] σ b0 t2;have h1:=h0.adv (t:=[105,102]) (by decide) t2;have l1:=BW h0.wf;generalize s0.adv=s1 at c0 h1 l1 ⊢;have b1:(σ.AH i (psA L s1)).blk i=some (psA L s1):=by rw [AZ,if_pos rfl])
   (have c1:=ih (σ.AH i (psA L s1)) s1 g0 h1 (by omega) b1;rw [AN] at c1;have h2:=h1.run (C0 n);have l2:=PM.le (C0 n) h1.wf;generalize (C0 n).run s1=y at c1 h2 l2 ⊢;obtain ⟨x1,s2⟩:=y;simp only at c1 h2 l2 ⊢;have b2:(σ.AH i (psA L s2)).blk i=some (psA L s2):=AX;obtain ⟨o1,n1,u1,ns1,ks1,al1⟩:=x1;simp only [exA,Ex.AS,AB,AE] at c1 ⊢)
   (have c2:=(DP i L n [116,104,101,110] (by decide)) (σ.AH i (psA L s2)) s2 g0 h2 (by omega) b2;rw [AN] at c2;have h3:=h2.run (PM.exp [116,104,101,110] (by decide));have l3:=PM.le (PM.exp [116,104,101,110] (by decide)) h2.wf;generalize (PM.exp [116,104,101,110] (by decide)).run s2=y at c2 h3 l3 ⊢;obtain ⟨x2,s3⟩:=y;simp only at c2 h3 l3 ⊢;have b3:(σ.AH i (psA L s3)).blk i=some (psA L s3):=AX)
   (have c3:=ih (σ.AH i (psA L s3)) s3 g0 h3 (by omega) b3;rw [AN] at c3;have h4:=h3.run (C0 n);have l4:=PM.le (C0 n) h3.wf;generalize (C0 n).run s3=y at c3 h4 l4 ⊢;obtain ⟨x3,s4⟩:=y;simp only at c3 h4 l4 ⊢;have b4:(σ.AH i (psA L s4)).blk i=some (psA L s4):=AX;obtain ⟨o3,n3,u3,ns3,ks3,al3⟩:=x3;simp only [exA,Ex.AS,AB,AE] at c3 ⊢)
   (have c4:=(DP i L n [101,108,115,101] (by decide)) (σ.AH i (psA L s4)) s4 g0 h4 (by omega) b4;rw [AN] at c4;have h5:=h4.run (PM.exp [101,108,115,101] (by decide));have l5:=PM.le (PM.exp [101,108,115,101] (by decide)) h4.wf;generalize (PM.exp [101,108,115,101] (by decide)).run s4=y at c4 h5 l5 ⊢;obtain ⟨x4,s5⟩:=y;simp only at c4 h5 l5 ⊢;have b5:(σ.AH i (psA L s5)).blk i=some (psA L s5):=AX)
   (have c5:=ih (σ.AH i (psA L s5)) s5 g0 h5 (by omega) b5;rw [AN] at c5;have h6:=h5.run (C0 n);have l6:=PM.le (C0 n) h5.wf;generalize (C0 n).run s5=y at c5 h6 l6 ⊢;obtain ⟨x5,s6⟩:=y;simp only at c5 h6 l6 ⊢;have b6:(σ.AH i (psA L s6)).blk i=some (psA L s6):=AX;obtain ⟨o5,n5,u5,ns5,ks5,al5⟩:=x5;simp only [exA,Ex.AS,AB,AE] at c5 ⊢)
   (repeat' (first|refine ctQ rfl ?_|((first|refine rgQ mxQ ?_|refine cdQ ?_|refine Run.A2 C5 (AK.le_refl _) ?_|(refine AD.upd c0 ?_)|(refine AD.upd c1 ?_)|(refine AD.upd c2 ?_)|(refine AD.upd c3 ?_)|(refine AD.upd c4 ?_)|(refine AD.upd c5 ?_)|refine AD.det (f1) ?_)<;>try simp -implicitDefEqProofs only [go_sem])|fail))
  |false=>
  have f2:=DN h0 _ σ b0 t2
  cases t3:s0.hd.text==[109,97,116,99,104] with
  |true=>
   simp only [if_true,if_false,AL,run_bind,run_pure,exA,exN,Ex.AS,AB,AE]
   (have c0:=DO h0 [109,97,116,99,104] σ b0 t3;have h1:=h0.adv (t:=[109,97,116,99,104]) (by decide) t3;have l1:=BW h0.wf;generalize s0.adv=s1 at c0 h1 l1 ⊢;have b1:(σ.AH i (psA L s1)).blk i=some (psA L s1):=by rw [AZ,if_pos rfl])
   (have c1:=ih (σ.AH i (psA L s1)) s1 g0 h1 (by omega) b1;rw [AN] at c1;have h2:=h1.run (C0 n);have l2:=PM.le (C0 n) h1.wf;generalize (C0 n).run s1=y at c1 h2 l2 ⊢;obtain ⟨x1,s2⟩:=y;simp only at c1 h2 l2 ⊢;have b2:(σ.AH i (psA L s2)).blk i=some (psA L s2):=AX;obtain ⟨o1,n1,u1,ns1,ks1,al1⟩:=x1;simp only [exA,Ex.AS,AB,AE] at c1 ⊢)
   (have c2:=(DP i L n [119,105,116,104] (by decide)) (σ.AH i (psA L s2)) s2 g0 h2 (by omega) b2;rw [AN] at c2;have h3:=h2.run (PM.exp [119,105,116,104] (by decide));have l3:=PM.le (PM.exp [119,105,116,104] (by decide)) h2.wf;generalize (PM.exp [119,105,116,104] (by decide)).run s2=y at c2 h3 l3 ⊢;obtain ⟨x2,s3⟩:=y;simp only at c2 h3 l3 ⊢;have b3:(σ.AH i (psA L s3)).blk i=some (psA L s3):=AX)
   (have c3:=(Wx i L n ACZ (ACG i L n ih) [124] (by decide)).pc (σ.AH i (psA L s3)) s3 g0 h3 (by omega) b3;rw [AN] at c3;have h4:=h3.run (items (jH (C0 n)) [124] (by decide));have l4:=PM.le (items (jH (C0 n)) [124] (by decide)) h3.wf;generalize (items (jH (C0 n)) [124] (by decide)).run s3=y at c3 h4 l4 ⊢;obtain ⟨x3,s4⟩:=y;simp only at c3 h4 l4 ⊢;have b4:(σ.AH i (psA L s4)).blk i=some (psA L s4):=AX)
   (have c4:=(DP i L n [101,110,100] (by decide)) (σ.AH i (psA L s4)) s4 g0 h4 (by omega) b4;rw [AN] at c4;have h5:=h4.run (PM.exp [101,110,100] (by decide));have l5:=PM.le (PM.exp [101,110,100] (by decide)) h4.wf;generalize (PM.exp [101,110,100] (by decide)).run s4=y at c4 h5 l5 ⊢;obtain ⟨x4,s5⟩:=y;simp only at c4 h5 l5 ⊢;have b5:(σ.AH i (psA L s5)).blk i=some (psA L s5):=AX)
   (repeat' (first|refine ctQ rfl ?_|((first|refine rgQ mxQ ?_|refine cdQ ?_|refine Run.A2 C5 (AK.le_refl _) ?_|(refine AD.upd c0 ?_)|(refine AD.upd c1 ?_)|(refine AD.upd c2 ?_)|(refine AD.upd c3 ?_)|(refine AD.upd c4 ?_)|refine AD.det (f1) ?_|refine AD.det (f2) ?_)<;>try simp -implicitDefEqProofs only [go_sem])|fail))
  |false=>
  have f3:=DN h0 _ σ b0 t3
  cases t4:s0.hd.text==[102,110] with
  |true=>
   simp only [if_true,if_false,AL,run_bind,run_pure,exA,exN,Ex.AS,AB,AE]
   (have c0:=DO h0 [102,110] σ b0 t4;have h1:=h0.adv (t:=[102,110]) (by decide) t4;have l1:=BW h0.wf;generalize s0.adv=s1 at c0 h1 l1 ⊢;have b1:(σ.AH i (psA L s1)).blk i=some (psA L s1):=by rw [AZ,if_pos rfl])
   (have c1:=(DP i L n [40] (by decide)) (σ.AH i (psA L s1)) s1 g0 h1 (by omega) b1;rw [AN] at c1;have h2:=h1.run (PM.exp [40] (by decide));have l2:=PM.le (PM.exp [40] (by decide)) h1.wf;generalize (PM.exp [40] (by decide)).run s1=y at c1 h2 l2 ⊢;obtain ⟨x1,s2⟩:=y;simp only at c1 h2 l2 ⊢;have b2:(σ.AH i (psA L s2)).blk i=some (psA L s2):=AX)
   (have c2:=(PB i L n fT (Q3 i L n)).pc (σ.AH i (psA L s2)) s2 g0 h2 (by omega) b2;rw [AN] at c2;have h3:=h2.run (closed E3);have l3:=PM.le (closed E3) h2.wf;generalize (closed E3).run s2=y at c2 h3 l3 ⊢;obtain ⟨x2,s3⟩:=y;simp only at c2 h3 l3 ⊢;have b3:(σ.AH i (psA L s3)).blk i=some (psA L s3):=AX)
   (have c3:=(DP i L n [45,62] (by decide)) (σ.AH i (psA L s3)) s3 g0 h3 (by omega) b3;rw [AN] at c3;have h4:=h3.run (PM.exp [45,62] (by decide));have l4:=PM.le (PM.exp [45,62] (by decide)) h3.wf;generalize (PM.exp [45,62] (by decide)).run s3=y at c3 h4 l4 ⊢;obtain ⟨x3,s4⟩:=y;simp only at c3 h4 l4 ⊢;have b4:(σ.AH i (psA L s4)).blk i=some (psA L s4):=AX)
   (have c4:=ih (σ.AH i (psA L s4)) s4 g0 h4 (by omega) b4;rw [AN] at c4;have h5:=h4.run (C0 n);have l5:=PM.le (C0 n) h4.wf;generalize (C0 n).run s4=y at c4 h5 l5 ⊢;obtain ⟨x4,s5⟩:=y;simp only at c4 h5 l5 ⊢;have b5:(σ.AH i (psA L s5)).blk i=some (psA L s5):=AX;obtain ⟨o4,n4,u4,ns4,ks4,al4⟩:=x4;simp only [exA,Ex.AS,AB,AE] at c4 ⊢)
   (repeat' (first|refine ctQ rfl ?_|((first|refine rgQ mxQ ?_|refine cdQ ?_|refine Run.A2 C5 (AK.le_refl _) ?_|(refine AD.upd c0 ?_)|(refine AD.upd c1 ?_)|(refine AD.upd c2 ?_)|(refine AD.upd c3 ?_)|(refine AD.upd c4 ?_)|refine AD.det (f1) ?_|refine AD.det (f2) ?_|refine AD.det (f3) ?_)<;>try simp -implicitDefEqProofs only [go_sem])|fail))
  |false=>
  have f4:=DN h0 _ σ b0 t4
  cases t5:s0.hd.text==[116,114,121] with
  |true=>
   simp only [if_true,if_false,AL,run_bind,run_pure,exA,exN,Ex.AS,AB,AE]
   (have c0:=DO h0 [116,114,121] σ b0 t5;have h1:=h0.adv (t:=[116,114,121]) (by decide) t5;have l1:=BW h0.wf;generalize s0.adv=s1 at c0 h1 l1 ⊢;have b1:(σ.AH i (psA L s1)).blk i=some (psA L s1):=by rw [AZ,if_pos rfl])
   (have c1:=ih (σ.AH i (psA L s1)) s1 g0 h1 (by omega) b1;rw [AN] at c1;have h2:=h1.run (C0 n);have l2:=PM.le (C0 n) h1.wf;generalize (C0 n).run s1=y at c1 h2 l2 ⊢;obtain ⟨x1,s2⟩:=y;simp only at c1 h2 l2 ⊢;have b2:(σ.AH i (psA L s2)).blk i=some (psA L s2):=AX;obtain ⟨o1,n1,u1,ns1,ks1,al1⟩:=x1;simp only [exA,Ex.AS,AB,AE] at c1 ⊢)
   (have c2:=(DP i L n [99,97,116,99,104] (by decide)) (σ.AH i (psA L s2)) s2 g0 h2 (by omega) b2;rw [AN] at c2;have h3:=h2.run (PM.exp [99,97,116,99,104] (by decide));have l3:=PM.le (PM.exp [99,97,116,99,104] (by decide)) h2.wf;generalize (PM.exp [99,97,116,99,104] (by decide)).run s2=y at c2 h3 l3 ⊢;obtain ⟨x2,s3⟩:=y;simp only at c2 h3 l3 ⊢;have b3:(σ.AH i (psA L s3)).blk i=some (psA L s3):=AX)
   (have c3:=(T3 i L n) (σ.AH i (psA L s3)) s3 g0 h3 (by omega) b3;rw [AN] at c3;have h4:=h3.run (FJ);have l4:=PM.le (FJ) h3.wf;generalize (FJ).run s3=y at c3 h4 l4 ⊢;obtain ⟨x3,s4⟩:=y;simp only at c3 h4 l4 ⊢;have b4:(σ.AH i (psA L s4)).blk i=some (psA L s4):=AX)
   (have c4:=(DP i L n [45,62] (by decide)) (σ.AH i (psA L s4)) s4 g0 h4 (by omega) b4;rw [AN] at c4;have h5:=h4.run (PM.exp [45,62] (by decide));have l5:=PM.le (PM.exp [45,62] (by decide)) h4.wf;generalize (PM.exp [45,62] (by decide)).run s4=y at c4 h5 l5 ⊢;obtain ⟨x4,s5⟩:=y;simp only at c4 h5 l5 ⊢;have b5:(σ.AH i (psA L s5)).blk i=some (psA L s5):=AX)
   (have c5:=ih (σ.AH i (psA L s5)) s5 g0 h5 (by omega) b5;rw [AN] at c5;have h6:=h5.run (C0 n);have l6:=PM.le (C0 n) h5.wf;generalize (C0 n).run s5=y at c5 h6 l6 ⊢;obtain ⟨x5,s6⟩:=y;simp only at c5 h6 l6 ⊢;have b6:(σ.AH i (psA L s6)).blk i=some (psA L s6):=AX;obtain ⟨o5,n5,u5,ns5,ks5,al5⟩:=x5;simp only [exA,Ex.AS,AB,AE] at c5 ⊢)
   (have c6:=(DP i L n [101,110,100] (by decide)) (σ.AH i (psA L s6)) s6 g0 h6 (by omega) b6;rw [AN] at c6;have h7:=h6.run (PM.exp [101,110,100] (by decide));have l7:=PM.le (PM.exp [101,110,100] (by decide)) h6.wf;generalize (PM.exp [101,110,100] (by decide)).run s6=y at c6 h7 l7 ⊢;obtain ⟨x6,s7⟩:=y;simp only at c6 h7 l7 ⊢;have b7:(σ.AH i (psA L s7)).blk i=some (psA L s7):=AX)
   (repeat' (first|refine ctQ rfl ?_|((first|refine rgQ mxQ ?_|refine cdQ ?_|refine Run.A2 C5 (AK.le_refl _) ?_|(refine AD.upd c0 ?_)|(refine AD.upd c1 ?_)|(refine AD.upd c2 ?_)|(refine AD.upd c3 ?_)|(refine AD.upd c4 ?_)|(refine AD.upd c5 ?_)|(refine AD.upd c6 ?_)|refine AD.det (f1) ?_|refine AD.det (f2) ?_|refine AD.det (f3) ?_|refine AD.det (f4) ?_)<;>try simp -implicitDefEqProofs only [go_sem])|fail))
  |false=>
  have f5:=DN h0 _ σ b0 t5
  simp only [if_false,AL]
  (have c0:=(yP i hN n ih) σ s0 g0 h0 (by omega) b0;have h1:=h0.run (WB (C0 n));have l1:=PM.le (WB (C0 n)) h0.wf;generalize (WB (C0 n)).run s0=y at c0 h1 l1 ⊢;obtain ⟨x0,s1⟩:=y;simp only at c0 h1 l1 ⊢;have b1:(σ.AH i (psA L s1)).blk i=some (psA L s1):=AX;obtain ⟨o0,n0,u0,ns0,ks0,al0⟩:=x0;simp only [exA,Ex.AS,AB,AE] at c0 ⊢)
  (repeat' (first|refine ctQ rfl ?_|((first|refine rgQ mxQ ?_|refine cdQ ?_|refine Run.A2 C5 (AK.le_refl _) ?_|(refine AD.upd c0 ?_)|refine AD.det (f1) ?_|refine AD.det (f2) ?_|refine AD.det (f3) ?_|refine AD.det (f4) ?_|refine AD.det (f5) ?_)<;>try simp -implicitDefEqProofs only [go_sem])|fail))
end Go.Ab
