/- The reference's parser: expressions. Several owned slices side by side. Conditions: none. -/
import Derived.Test.YtifplkldbbcldaaGreatDoorXPi
set_option linter.unusedSimpArgs false
set_option linter.unusedVariables false
set_option maxRecDepth 4000
set_option maxHeartbeats 8000000
open List renaming length_pos_iff→A5,map_cons→AB,map_nil→AE,length_cons→AG,length_nil→AI,length_append→AA,map_append→Ax,cons_append→Ae
open Bool renaming false_eq_true→AL
open Nat renaming mul_le_mul→Ol
open Option.some renaming injEq→AQ
namespace Go.Ab
open Go.Proofs
theorem nH {n:Nat} {s:RSt} (h:s.b=true):(IS n).run s=(exN 0 0 [],s):=by
 cases n with
 |zero=>
  obtain ⟨r,b⟩:=s
  simp only at h;subst h;rfl
 |succ n=>rw [IS];exact if_pos h
theorem jW (i:Nat) {L:List Tok} (hN:NOk L):∀n,RPC 35 [.gp i 0] i L n (IS n) exA
 |0=>fun σ s _ h1 h2 h3=>by have:=A5.2 h1.wf.ne;omega
 |n+1=>by
  have ih:=jW i hN n
  intro σ s0 g0 h0 l0 b0
  have hf0:=Bo
  have hl0:=h0.suf.length_le
  have hl1:=h0.len
  refine Wp (by simp) ?_
  rw [Ar]
  cases hbad:s0.b with
  |true=>
   have b0':=Jh hbad b0
   have hσ:σ.AH i (rsA L s0)=σ:=Lo b0
   rw [nH hbad,hσ]
   try simp only [exA,exN,Ex.AS,AB,AE]
   (repeat' (first|refine ctQ rfl ?_|((first|refine rgQ mxQ ?_|refine cdQ ?_|refine Run.A2 Be (AK.le_refl _) ?_)<;>try simp -implicitDefEqProofs only [b0',go_sem])|fail))
  |false=>
  have b0':=Jh hbad b0
  rw [IS]
  simp only [WL,H9,hbad,if_false,AL]
  have ihE:=ih
  generalize IS n=E at ih ihE ⊢
  cases t1:s0.is [108,101,116] with
  |true=>
   simp only [if_true,AAJ,H9]
   (have c0:=CU h0 [108,101,116] σ b0 t1;have h1:=h0.adv (t:=[108,101,116]) (by decide) t1;have l1:=Am h0.wf;generalize s0.adv=s1 at c0 h1 l1 ⊢;have b1:(σ.AH i (rsA L s1)).blk i=some (rsA L s1):=by rw [AZ,if_pos rfl])
   cases hp:s1.is [40] with
   |true=>
    simp only [if_true,BD,BK]
    (have c1:=CU h1 [40] (σ.AH i (rsA L s1)) b1 hp;rw [AN] at c1;have h2:=h1.adv (t:=[40]) (by decide) hp;have l2:=Am h1.wf;generalize s1.adv=s2 at c1 h2 l2 ⊢;have b2:(σ.AH i (rsA L s2)).blk i=some (rsA L s2):=by rw [AZ,if_pos rfl])
    (have c2:=(N7 i L n) (σ.AH i (rsA L s2)) s2 g0 h2 (by omega) b2;rw [AN] at c2;have h3:=h2.run (De);have l3:=RM.le (De) h2.wf;generalize (De).run s2=y at c2 h3 l3 ⊢;obtain ⟨x2,s3⟩:=y;simp only at c2 h3 l3 ⊢;have b3:(σ.AH i (rsA L s3)).blk i=some (rsA L s3):=AX)
    (repeat' (first|refine ctQ rfl ?_|((first|refine rgQ mxQ ?_|refine cdQ ?_|(refine AD.upd c0 ?_)|(refine AD.upd c1 ?_)|(refine AD.upd c2 ?_)|(refine Fh.own rfl (by decide) (fun tk htk=>?_)))<;>try simp -implicitDefEqProofs only [b0',go_sem])|fail))
    have hl3:=RS.dF (e:=9) (z:=1) (rows:=[[.str x2]]) htk
    generalize hτ:(σ.AH i (rsA L s3)).CO tk=τ at hl3 ⊢
    have hlS:=hl3
    have e3:=B7 i L n [44] _ s3 trivial h3 (by omega) hl3.blk
    have h4:=h3.run (RM.A9 [44])
    have l4:=RM.le (RM.A9 [44]) h3.wf
    have hl4:=hlS.step ((RM.A9 [44]).run s3).2
    generalize (RM.A9 [44]).run s3=y at e3 h4 l4 hl4 ⊢
    obtain ⟨x3,s4⟩:=y
    simp only at e3 h4 l4 hl4 ⊢
    rw [GR,Ig]
    have e4:=N7 i L n _ s4 trivial h4 (by omega) hl4.blk
    rw [AN] at e4
    have h5:=h4.run (De)
    have l5:=RM.le (De) h4.wf
    have hl5:=hlS.step ((De).run s4).2
    generalize (De).run s4=y at e4 h5 l5 hl5 ⊢
    obtain ⟨x4,s5⟩:=y
    simp only at e4 h5 l5 hl5 ⊢
    (repeat' (first|refine ctQ rfl ?_|((first|refine rgQ mxQ ?_|refine cdQ ?_|(refine AD.upd e3 ?_)|(refine AD.upd e4 ?_))<;>try simp -implicitDefEqProofs only [go_sem])|fail))
    refine hl5.tok rfl (by simp) (by simp) (by decide) (fun v5 τ5 ho=>?_);simp -implicitDefEqProofs only [if_true,go_sem]
    (repeat' (first|refine ctQ rfl ?_|((first|refine rgQ mxQ ?_|refine cdQ ?_)<;>try simp -implicitDefEqProofs only [ho.own.w4,ho.own.plain,ho.own.dv,if_true,go_sem])|fail))
    have hx1:[[DV.str x2]]++[[DV.str x4]]=(x2::[x4]).map Br:=rfl
    rw [hx1] at ho
    clear hx1 hlS hl3 hl4 hl5 hτ
    refine Run.BU ?_
    refine Run.BZ ((fun (a0:AV) (a2:AV)=>fun (y:RSt×List Str×Nat×AV×AK)=>put 0 a0 (put 2 a2 (put 3 (y.2.2.2.1) U))) _ _) (fun _=>Aq 2 [.d (.int .i64 0),.d (.str []),.d (.int .i64 0),.AO,.AO,.AO] Ab.E) (fun y=>y.2.2.2.2) (fun y=>ROk L y.1∧y.1.r.length≤n∧y.1.r.length≤y.2.2.1∧y.2.1.length+y.1.r.length≤17001∧RS σ i L y.1 9 1 ((x2::y.2.1).map Br) y.2.2.2.1 y.2.2.2.2∧(B5 De [44] y.2.2.1 y.2.1).run y.1=(B5 De [44] Af [x4]).run s5) (fun y=>y.1.r.length) ?_ (s5,[x4],Af,v5,τ5) ⟨h5,by simp only;omega,by simp only;omega,by simp only [AG,AI];omega,ho,rfl⟩
    clear ho τ5 v5
    rintro ⟨s6,vs,q5,v5,τ5⟩ ⟨h6,l6,g3,g4,hl6,g6⟩ ih2
    simp only at h6 l6 g3 g4 hl6 g6
    obtain ⟨q5,rfl⟩:∃m,q5=m+1:=⟨q5 - 1,by have:=A5.2 h6.wf.ne;omega⟩
    have hlS:=hl6
    cases hcc:s6.is [44] with
    |true=>
     rw [Fw hcc] at g6
     have d1:=CU h6 _ τ5 hl6.blk hcc
     have g1a:=h6.adv (t:=[44]) trivial hcc
     have hal:=Am h6.wf
     have hst0:=hl6.step s6.adv
     generalize s6.adv=s7 at d1 g1a hal hst0 g6
     have d2:=N7 i L n _ s7 trivial g1a (by omega) hst0.blk
     rw [AN] at d2
     have h1':=g1a.run De
     have hle:=RM.le De g1a.wf
     have hst:=hl6.step (De.run s7).2
     generalize De.run s7=y at d2 h1' hle g6 hst
     obtain ⟨x7,s8⟩:=y
     simp only at d2 h1' hle g6 hst
     (repeat' (first|refine ctQ rfl ?_|((first|refine rgQ mxQ ?_|refine cdQ ?_|(refine AD.upd d1 ?_)|(refine AD.upd d2 ?_))<;>try simp -implicitDefEqProofs only [go_sem])|fail))
     refine hst.tok rfl (by simp) (by simp;omega) (by decide) (fun v2 τ2 ho=>?_);simp -implicitDefEqProofs only [if_true,go_sem]
     try (repeat' (first|refine ctQ rfl ?_|((first|refine rgQ mxQ ?_|refine cdQ ?_)<;>try simp -implicitDefEqProofs only [ho.own.w4,ho.own.plain,ho.own.dv,if_true,go_sem])|fail))
     refine ih2 (s8,vs++[x7],q5,v2,τ2) ⟨h1',by simp only;omega,by simp only;omega,by simp only [AA,AG,AI];omega,?_,g6⟩ (by simp only;omega)
     simp only [Ax,AB,AE,Br,Ae] at ho ⊢
     exact ho
    |false=>
     rw [FP hcc] at g6
     rw [← g6]
     simp only
     clear ih2 g6
     have d1:=CN h6 _ τ5 hl6.blk hcc
     have e6:=B7 i L n [41] _ s6 trivial h6 (by omega) hl6.blk
     have h7:=h6.run (RM.A9 [41])
     have l7:=RM.le (RM.A9 [41]) h6.wf
     have hl7:=hlS.step ((RM.A9 [41]).run s6).2
     generalize (RM.A9 [41]).run s6=y at e6 h7 l7 hl7 ⊢
     obtain ⟨x6,s7⟩:=y
     simp only at e6 h7 l7 hl7 ⊢
     have e7:=B7 i L n [61] _ s7 trivial h7 (by omega) hl7.blk
     rw [AN] at e7
     have h8:=h7.run (RM.A9 [61])
     have l8:=RM.le (RM.A9 [61]) h7.wf
     have hl8:=hlS.step ((RM.A9 [61]).run s7).2
     generalize (RM.A9 [61]).run s7=y at e7 h8 l8 hl8 ⊢
     obtain ⟨x7,s8⟩:=y
     simp only at e7 h8 l8 hl8 ⊢
     have e8:=ih _ s8 trivial h8 (by omega) hl8.blk
     rw [AN] at e8
     have h9:=h8.run (E)
     have l9:=RM.le (E) h8.wf
     have hl9:=hlS.step ((E).run s8).2
     generalize (E).run s8=y at e8 h9 l9 hl9 ⊢
     obtain ⟨x8,s9⟩:=y
     simp only at e8 h9 l9 hl9 ⊢
     obtain ⟨o8,n8,u8,ns8,ks8,al8⟩:=x8
     simp only [exA,Ex.AS,AB,AE] at e8 ⊢
     have e9:=B7 i L n [105,110] _ s9 trivial h9 (by omega) hl9.blk
     rw [AN] at e9
     have h10:=h9.run (RM.A9 [105,110])
     have l10:=RM.le (RM.A9 [105,110]) h9.wf
     have hl10:=hlS.step ((RM.A9 [105,110]).run s9).2
     generalize (RM.A9 [105,110]).run s9=y at e9 h10 l10 hl10 ⊢
     obtain ⟨x9,s10⟩:=y
     simp only at e9 h10 l10 hl10 ⊢
     have e10:=ih _ s10 trivial h10 (by omega) hl10.blk
     rw [AN] at e10
     have h11:=h10.run (E)
     have l11:=RM.le (E) h10.wf
     have hl11:=hlS.step ((E).run s10).2
     generalize (E).run s10=y at e10 h11 l11 hl11 ⊢
     obtain ⟨x10,s11⟩:=y
     simp only at e10 h11 l11 hl11 ⊢
     obtain ⟨o10,n10,u10,ns10,ks10,al10⟩:=x10
     simp only [exA,Ex.AS,AB,AE] at e10 ⊢
     (repeat' (first|refine ctQ rfl ?_|((first|refine rgQ mxQ ?_|refine cdQ ?_|(refine AD.upd e6 ?_)|(refine AD.upd e7 ?_)|(refine AD.upd e8 ?_)|(refine AD.upd e9 ?_)|(refine AD.upd e10 ?_)|(refine Run.A2 Be hl11.le ?_)|refine AD.det (d1) ?_)<;>try simp -implicitDefEqProofs only [hlS.own.DF,hlS.own.cells,hlS.own.cell,hlS.own.plain,go_sem])|fail))
   |false=>
    have fp:=CN h1 _ _ b1 hp
    simp only [if_false,AL,BD,BK]
    (have c1:=(N7 i L n) (σ.AH i (rsA L s1)) s1 g0 h1 (by omega) b1;rw [AN] at c1;have h2:=h1.run (De);have l2:=RM.le (De) h1.wf;generalize (De).run s1=y at c1 h2 l2 ⊢;obtain ⟨x1,s2⟩:=y;simp only at c1 h2 l2 ⊢;have b2:(σ.AH i (rsA L s2)).blk i=some (rsA L s2):=AX)
    (have c2:=(B7 i L n [61]) (σ.AH i (rsA L s2)) s2 g0 h2 (by omega) b2;rw [AN] at c2;have h3:=h2.run (RM.A9 [61]);have l3:=RM.le (RM.A9 [61]) h2.wf;generalize (RM.A9 [61]).run s2=y at c2 h3 l3 ⊢;obtain ⟨x2,s3⟩:=y;simp only at c2 h3 l3 ⊢;have b3:(σ.AH i (rsA L s3)).blk i=some (rsA L s3):=AX)
    (have c3:=ih (σ.AH i (rsA L s3)) s3 g0 h3 (by omega) b3;rw [AN] at c3;have h4:=h3.run (E);have l4:=RM.le (E) h3.wf;generalize (E).run s3=y at c3 h4 l4 ⊢;obtain ⟨x3,s4⟩:=y;simp only at c3 h4 l4 ⊢;have b4:(σ.AH i (rsA L s4)).blk i=some (rsA L s4):=AX;obtain ⟨o3,n3,u3,ns3,ks3,al3⟩:=x3;simp only [exA,Ex.AS,AB,AE] at c3 ⊢)
    (have c4:=(B7 i L n [105,110]) (σ.AH i (rsA L s4)) s4 g0 h4 (by omega) b4;rw [AN] at c4;have h5:=h4.run (RM.A9 [105,110]);have l5:=RM.le (RM.A9 [105,110]) h4.wf;generalize (RM.A9 [105,110]).run s4=y at c4 h5 l5 ⊢;obtain ⟨x4,s5⟩:=y;simp only at c4 h5 l5 ⊢;have b5:(σ.AH i (rsA L s5)).blk i=some (rsA L s5):=AX)
    (have c5:=ih (σ.AH i (rsA L s5)) s5 g0 h5 (by omega) b5;rw [AN] at c5;have h6:=h5.run (E);have l6:=RM.le (E) h5.wf;generalize (E).run s5=y at c5 h6 l6 ⊢;obtain ⟨x5,s6⟩:=y;simp only at c5 h6 l6 ⊢;have b6:(σ.AH i (rsA L s6)).blk i=some (rsA L s6):=AX;obtain ⟨o5,n5,u5,ns5,ks5,al5⟩:=x5;simp only [exA,Ex.AS,AB,AE] at c5 ⊢)
    try simp only [exA,exN,Ex.AS,AB,AE]
    (repeat' (first|refine ctQ rfl ?_|((first|refine rgQ mxQ ?_|refine cdQ ?_|refine Run.A2 Be (AK.le_refl _) ?_|(refine AD.upd c0 ?_)|(refine AD.upd c1 ?_)|(refine AD.upd c2 ?_)|(refine AD.upd c3 ?_)|(refine AD.upd c4 ?_)|(refine AD.upd c5 ?_)|refine AD.det (fp) ?_)<;>try simp -implicitDefEqProofs only [b0',go_sem])|fail))
  |false=>
  have f1:=CN h0 _ σ b0 t1
  cases t2:s0.is [105,102] with
  |true=>
   simp only [if_true,if_false,AL,BD,BK]
   (have c0:=CU h0 [105,102] σ b0 t2;have h1:=h0.adv (t:=[105,102]) (by decide) t2;have l1:=Am h0.wf;generalize s0.adv=s1 at c0 h1 l1 ⊢;have b1:(σ.AH i (rsA L s1)).blk i=some (rsA L s1):=by rw [AZ,if_pos rfl])
   (have c1:=ih (σ.AH i (rsA L s1)) s1 g0 h1 (by omega) b1;rw [AN] at c1;have h2:=h1.run (E);have l2:=RM.le (E) h1.wf;generalize (E).run s1=y at c1 h2 l2 ⊢;obtain ⟨x1,s2⟩:=y;simp only at c1 h2 l2 ⊢;have b2:(σ.AH i (rsA L s2)).blk i=some (rsA L s2):=AX;obtain ⟨o1,n1,u1,ns1,ks1,al1⟩:=x1;simp only [exA,Ex.AS,AB,AE] at c1 ⊢)
   (have c2:=(B7 i L n [116,104,101,110]) (σ.AH i (rsA L s2)) s2 g0 h2 (by omega) b2;rw [AN] at c2;have h3:=h2.run (RM.A9 [116,104,101,110]);have l3:=RM.le (RM.A9 [116,104,101,110]) h2.wf;generalize (RM.A9 [116,104,101,110]).run s2=y at c2 h3 l3 ⊢;obtain ⟨x2,s3⟩:=y;simp only at c2 h3 l3 ⊢;have b3:(σ.AH i (rsA L s3)).blk i=some (rsA L s3):=AX)
   (have c3:=ih (σ.AH i (rsA L s3)) s3 g0 h3 (by omega) b3;rw [AN] at c3;have h4:=h3.run (E);have l4:=RM.le (E) h3.wf;generalize (E).run s3=y at c3 h4 l4 ⊢;obtain ⟨x3,s4⟩:=y;simp only at c3 h4 l4 ⊢;have b4:(σ.AH i (rsA L s4)).blk i=some (rsA L s4):=AX;obtain ⟨o3,n3,u3,ns3,ks3,al3⟩:=x3;simp only [exA,Ex.AS,AB,AE] at c3 ⊢)
   (have c4:=(B7 i L n [101,108,115,101]) (σ.AH i (rsA L s4)) s4 g0 h4 (by omega) b4;rw [AN] at c4;have h5:=h4.run (RM.A9 [101,108,115,101]);have l5:=RM.le (RM.A9 [101,108,115,101]) h4.wf;generalize (RM.A9 [101,108,115,101]).run s4=y at c4 h5 l5 ⊢;obtain ⟨x4,s5⟩:=y;simp only at c4 h5 l5 ⊢;have b5:(σ.AH i (rsA L s5)).blk i=some (rsA L s5):=AX)
   (have c5:=ih (σ.AH i (rsA L s5)) s5 g0 h5 (by omega) b5;rw [AN] at c5;have h6:=h5.run (E);have l6:=RM.le (E) h5.wf;generalize (E).run s5=y at c5 h6 l6 ⊢;obtain ⟨x5,s6⟩:=y;simp only at c5 h6 l6 ⊢;have b6:(σ.AH i (rsA L s6)).blk i=some (rsA L s6):=AX;obtain ⟨o5,n5,u5,ns5,ks5,al5⟩:=x5;simp only [exA,Ex.AS,AB,AE] at c5 ⊢)
   try simp only [exN,Ex.AS,AB,AE]
   (repeat' (first|refine ctQ rfl ?_|((first|refine rgQ mxQ ?_|refine cdQ ?_|refine Run.A2 Be (AK.le_refl _) ?_|(refine AD.upd c0 ?_)|(refine AD.upd c1 ?_)|(refine AD.upd c2 ?_)|(refine AD.upd c3 ?_)|(refine AD.upd c4 ?_)|(refine AD.upd c5 ?_)|refine AD.det (f1) ?_)<;>try simp -implicitDefEqProofs only [b0',go_sem])|fail))
  |false=>
  have f2:=CN h0 _ σ b0 t2
  cases t3:s0.is [109,97,116,99,104] with
  |true=>
   simp only [if_true,if_false,AL,BD,BK]
   (have c0:=CU h0 [109,97,116,99,104] σ b0 t3;have h1:=h0.adv (t:=[109,97,116,99,104]) (by decide) t3;have l1:=Am h0.wf;generalize s0.adv=s1 at c0 h1 l1 ⊢;have b1:(σ.AH i (rsA L s1)).blk i=some (rsA L s1):=by rw [AZ,if_pos rfl])
   (have c1:=ih (σ.AH i (rsA L s1)) s1 g0 h1 (by omega) b1;rw [AN] at c1;have h2:=h1.run (E);have l2:=RM.le (E) h1.wf;generalize (E).run s1=y at c1 h2 l2 ⊢;obtain ⟨x1,s2⟩:=y;simp only at c1 h2 l2 ⊢;have b2:(σ.AH i (rsA L s2)).blk i=some (rsA L s2):=AX;obtain ⟨o1,n1,u1,ns1,ks1,al1⟩:=x1;simp only [exA,Ex.AS,AB,AE] at c1 ⊢)
   (have c2:=(B7 i L n [119,105,116,104]) (σ.AH i (rsA L s2)) s2 g0 h2 (by omega) b2;rw [AN] at c2;have h3:=h2.run (RM.A9 [119,105,116,104]);have l3:=RM.le (RM.A9 [119,105,116,104]) h2.wf;generalize (RM.A9 [119,105,116,104]).run s2=y at c2 h3 l3 ⊢;obtain ⟨x2,s3⟩:=y;simp only at c2 h3 l3 ⊢;have b3:(σ.AH i (rsA L s3)).blk i=some (rsA L s3):=AX)
   try simp only [exA,exN,Ex.AS,AB,AE]
   (repeat' (first|refine ctQ rfl ?_|((first|refine rgQ mxQ ?_|refine cdQ ?_|(refine AD.upd c0 ?_)|(refine AD.upd c1 ?_)|(refine AD.upd c2 ?_)|refine AD.det (f1) ?_|refine AD.det (f2) ?_)<;>try simp -implicitDefEqProofs only [b0',go_sem])|fail))
   refine Run.BU ?_
   refine wY _ _ i L n ih _ σ s3 h3 (by omega) (fun v τ ho=>?_)
   have h4:=h3.run (BX (XI E) [124])
   have l4:=RM.le (BX (XI E) [124]) h3.wf
   generalize (BX (XI E) [124]).run s3=y at ho h4 l4 ⊢
   obtain ⟨x3,s4⟩:=y
   simp only at ho h4 l4 ⊢
   have e4:=CT h4 [101,110,100] τ ho.blk
   have ho2:=ho.step ((RM.A9 [101,110,100]).run s4).2
   (repeat' (first|refine ctQ rfl ?_|((first|refine rgQ mxQ ?_|refine cdQ ?_|(refine AD.upd e4 ?_)|(refine Run.A2 Be ho2.le ?_))<;>try simp -implicitDefEqProofs only [ho.own.cell,ho.own.plain,if_true,go_sem])|fail))
  |false=>
  have f3:=CN h0 _ σ b0 t3
  cases t4:s0.is [102,110] with
  |true=>
   simp only [if_true,if_false,AL,BD,BK]
   (have c0:=CU h0 [102,110] σ b0 t4;have h1:=h0.adv (t:=[102,110]) (by decide) t4;have l1:=Am h0.wf;generalize s0.adv=s1 at c0 h1 l1 ⊢;have b1:(σ.AH i (rsA L s1)).blk i=some (rsA L s1):=by rw [AZ,if_pos rfl])
   (have c1:=(eS i L n).pc (σ.AH i (rsA L s1)) s1 g0 h1 (by omega) b1;rw [AN] at c1;have h2:=h1.run (Oc);have l2:=RM.le (Oc) h1.wf;generalize (Oc).run s1=y at c1 h2 l2 ⊢;obtain ⟨x1,s2⟩:=y;simp only at c1 h2 l2 ⊢;have b2:(σ.AH i (rsA L s2)).blk i=some (rsA L s2):=AX)
   (have c2:=(B7 i L n [45,62]) (σ.AH i (rsA L s2)) s2 g0 h2 (by omega) b2;rw [AN] at c2;have h3:=h2.run (RM.A9 [45,62]);have l3:=RM.le (RM.A9 [45,62]) h2.wf;generalize (RM.A9 [45,62]).run s2=y at c2 h3 l3 ⊢;obtain ⟨x2,s3⟩:=y;simp only at c2 h3 l3 ⊢;have b3:(σ.AH i (rsA L s3)).blk i=some (rsA L s3):=AX)
   (have c3:=ih (σ.AH i (rsA L s3)) s3 g0 h3 (by omega) b3;rw [AN] at c3;have h4:=h3.run (E);have l4:=RM.le (E) h3.wf;generalize (E).run s3=y at c3 h4 l4 ⊢;obtain ⟨x3,s4⟩:=y;simp only at c3 h4 l4 ⊢;have b4:(σ.AH i (rsA L s4)).blk i=some (rsA L s4):=AX;obtain ⟨o3,n3,u3,ns3,ks3,al3⟩:=x3;simp only [exA,Ex.AS,AB,AE] at c3 ⊢)
   try simp only [exA,exN,Ex.AS,AB,AE]
   (repeat' (first|refine ctQ rfl ?_|((first|refine rgQ mxQ ?_|refine cdQ ?_|refine Run.A2 Be (AK.le_refl _) ?_|(refine AD.upd c0 ?_)|(refine AD.upd c1 ?_)|(refine AD.upd c2 ?_)|(refine AD.upd c3 ?_)|refine AD.det (f1) ?_|refine AD.det (f2) ?_|refine AD.det (f3) ?_)<;>try simp -implicitDefEqProofs only [b0',go_sem])|fail))
  |false=>
  have f4:=CN h0 _ σ b0 t4
  cases t5:s0.is [116,114,121] with
  |true=>
   simp only [if_true,if_false,AL,BD,BK]
   (have c0:=CU h0 [116,114,121] σ b0 t5;have h1:=h0.adv (t:=[116,114,121]) (by decide) t5;have l1:=Am h0.wf;generalize s0.adv=s1 at c0 h1 l1 ⊢;have b1:(σ.AH i (rsA L s1)).blk i=some (rsA L s1):=by rw [AZ,if_pos rfl])
   (have c1:=ih (σ.AH i (rsA L s1)) s1 g0 h1 (by omega) b1;rw [AN] at c1;have h2:=h1.run (E);have l2:=RM.le (E) h1.wf;generalize (E).run s1=y at c1 h2 l2 ⊢;obtain ⟨x1,s2⟩:=y;simp only at c1 h2 l2 ⊢;have b2:(σ.AH i (rsA L s2)).blk i=some (rsA L s2):=AX;obtain ⟨o1,n1,u1,ns1,ks1,al1⟩:=x1;simp only [exA,Ex.AS,AB,AE] at c1 ⊢)
   (have c2:=(B7 i L n [99,97,116,99,104]) (σ.AH i (rsA L s2)) s2 g0 h2 (by omega) b2;rw [AN] at c2;have h3:=h2.run (RM.A9 [99,97,116,99,104]);have l3:=RM.le (RM.A9 [99,97,116,99,104]) h2.wf;generalize (RM.A9 [99,97,116,99,104]).run s2=y at c2 h3 l3 ⊢;obtain ⟨x2,s3⟩:=y;simp only at c2 h3 l3 ⊢;have b3:(σ.AH i (rsA L s3)).blk i=some (rsA L s3):=AX)
   (have c3:=(N7 i L n) (σ.AH i (rsA L s3)) s3 g0 h3 (by omega) b3;rw [AN] at c3;have h4:=h3.run (De);have l4:=RM.le (De) h3.wf;generalize (De).run s3=y at c3 h4 l4 ⊢;obtain ⟨x3,s4⟩:=y;simp only at c3 h4 l4 ⊢;have b4:(σ.AH i (rsA L s4)).blk i=some (rsA L s4):=AX)
   (have c4:=(B7 i L n [45,62]) (σ.AH i (rsA L s4)) s4 g0 h4 (by omega) b4;rw [AN] at c4;have h5:=h4.run (RM.A9 [45,62]);have l5:=RM.le (RM.A9 [45,62]) h4.wf;generalize (RM.A9 [45,62]).run s4=y at c4 h5 l5 ⊢;obtain ⟨x4,s5⟩:=y;simp only at c4 h5 l5 ⊢;have b5:(σ.AH i (rsA L s5)).blk i=some (rsA L s5):=AX)
   (have c5:=ih (σ.AH i (rsA L s5)) s5 g0 h5 (by omega) b5;rw [AN] at c5;have h6:=h5.run (E);have l6:=RM.le (E) h5.wf;generalize (E).run s5=y at c5 h6 l6 ⊢;obtain ⟨x5,s6⟩:=y;simp only at c5 h6 l6 ⊢;have b6:(σ.AH i (rsA L s6)).blk i=some (rsA L s6):=AX;obtain ⟨o5,n5,u5,ns5,ks5,al5⟩:=x5;simp only [exA,Ex.AS,AB,AE] at c5 ⊢)
   (have c6:=(B7 i L n [101,110,100]) (σ.AH i (rsA L s6)) s6 g0 h6 (by omega) b6;rw [AN] at c6;have h7:=h6.run (RM.A9 [101,110,100]);have l7:=RM.le (RM.A9 [101,110,100]) h6.wf;generalize (RM.A9 [101,110,100]).run s6=y at c6 h7 l7 ⊢;obtain ⟨x6,s7⟩:=y;simp only at c6 h7 l7 ⊢;have b7:(σ.AH i (rsA L s7)).blk i=some (rsA L s7):=AX)
   try simp only [exA,exN,Ex.AS,AB,AE]
   (repeat' (first|refine ctQ rfl ?_|((first|refine rgQ mxQ ?_|refine cdQ ?_|refine Run.A2 Be (AK.le_refl _) ?_|(refine AD.upd c0 ?_)|(refine AD.upd c1 ?_)|(refine AD.upd c2 ?_)|(refine AD.upd c3 ?_)|(refine AD.upd c4 ?_)|(refine AD.upd c5 ?_)|(refine AD.upd c6 ?_)|refine AD.det (f1) ?_|refine AD.det (f2) ?_|refine AD.det (f3) ?_|refine AD.det (f4) ?_)<;>try simp -implicitDefEqProofs only [b0',go_sem])|fail))
  |false=>
  have f5:=CN h0 _ σ b0 t5
  simp only [if_false,AL,pO,BD]
  (have c0:=(Yt i hN n ih) σ s0 g0 h0 (by omega) b0;have h1:=h0.run (Q7 E);have l1:=RM.le (Q7 E) h0.wf;generalize (Q7 E).run s0=y at c0 h1 l1 ⊢;obtain ⟨x0,s1⟩:=y;simp only at c0 h1 l1 ⊢;have b1:(σ.AH i (rsA L s1)).blk i=some (rsA L s1):=AX;obtain ⟨o0,n0,u0,ns0,ks0,al0⟩:=x0;simp only [exA,Ex.AS,AB,AE] at c0 ⊢)
  simp only [H9,BD,BK]
  cases q0:s1.is [60] with
  |true=>
   simp only [if_true]
   (have c1:=CU h1 [60] (σ.AH i (rsA L s1)) b1 q0;rw [AN] at c1;have h2:=h1.adv (t:=[60]) (by decide) q0;have l2:=Am h1.wf;generalize s1.adv=s2 at c1 h2 l2 ⊢;have b2:(σ.AH i (rsA L s2)).blk i=some (rsA L s2):=by rw [AZ,if_pos rfl])
   (have c2:=(Yt i hN n ih) (σ.AH i (rsA L s2)) s2 g0 h2 (by omega) b2;rw [AN] at c2;have h3:=h2.run (Q7 E);have l3:=RM.le (Q7 E) h2.wf;generalize (Q7 E).run s2=y at c2 h3 l3 ⊢;obtain ⟨x2,s3⟩:=y;simp only at c2 h3 l3 ⊢;have b3:(σ.AH i (rsA L s3)).blk i=some (rsA L s3):=AX;obtain ⟨o2,n2,u2,ns2,ks2,al2⟩:=x2;simp only [exA,Ex.AS,AB,AE] at c2 ⊢)
   simp only [E1,exN,Ex.AS,AB,AE]
   (repeat' (first|refine ctQ rfl ?_|((first|refine rgQ mxQ ?_|refine cdQ ?_|refine Run.A2 Be (AK.le_refl _) ?_|(refine AD.upd c0 ?_)|(refine AD.upd c1 ?_)|(refine AD.upd c2 ?_)|refine AD.det (f1) ?_|refine AD.det (f2) ?_|refine AD.det (f3) ?_|refine AD.det (f4) ?_|refine AD.det (f5) ?_)<;>try simp -implicitDefEqProofs only [b0',go_sem])|fail))
  |false=>
  have z0:=CN h1 _ _ b1 q0
  cases q1:s1.is [60,61] with
  |true=>
   simp only [if_true,if_false,AL]
   (have c1:=CU h1 [60,61] (σ.AH i (rsA L s1)) b1 q1;rw [AN] at c1;have h2:=h1.adv (t:=[60,61]) (by decide) q1;have l2:=Am h1.wf;generalize s1.adv=s2 at c1 h2 l2 ⊢;have b2:(σ.AH i (rsA L s2)).blk i=some (rsA L s2):=by rw [AZ,if_pos rfl])
   (have c2:=(Yt i hN n ih) (σ.AH i (rsA L s2)) s2 g0 h2 (by omega) b2;rw [AN] at c2;have h3:=h2.run (Q7 E);have l3:=RM.le (Q7 E) h2.wf;generalize (Q7 E).run s2=y at c2 h3 l3 ⊢;obtain ⟨x2,s3⟩:=y;simp only at c2 h3 l3 ⊢;have b3:(σ.AH i (rsA L s3)).blk i=some (rsA L s3):=AX;obtain ⟨o2,n2,u2,ns2,ks2,al2⟩:=x2;simp only [exA,Ex.AS,AB,AE] at c2 ⊢)
   simp only [E1,exN,Ex.AS,AB,AE]
   (repeat' (first|refine ctQ rfl ?_|((first|refine rgQ mxQ ?_|refine cdQ ?_|refine Run.A2 Be (AK.le_refl _) ?_|(refine AD.upd c0 ?_)|(refine AD.upd c1 ?_)|(refine AD.upd c2 ?_)|refine AD.det (f1) ?_|refine AD.det (f2) ?_|refine AD.det (f3) ?_|refine AD.det (f4) ?_|refine AD.det (f5) ?_|refine AD.det (z0) ?_)<;>try simp -implicitDefEqProofs only [b0',go_sem])|fail))
  |false=>
  have z1:=CN h1 _ _ b1 q1
  cases q2:s1.is [61,61] with
  |true=>
   simp only [if_true,if_false,AL]
   (have c1:=CU h1 [61,61] (σ.AH i (rsA L s1)) b1 q2;rw [AN] at c1;have h2:=h1.adv (t:=[61,61]) (by decide) q2;have l2:=Am h1.wf;generalize s1.adv=s2 at c1 h2 l2 ⊢;have b2:(σ.AH i (rsA L s2)).blk i=some (rsA L s2):=by rw [AZ,if_pos rfl])
   (have c2:=(Yt i hN n ih) (σ.AH i (rsA L s2)) s2 g0 h2 (by omega) b2;rw [AN] at c2;have h3:=h2.run (Q7 E);have l3:=RM.le (Q7 E) h2.wf;generalize (Q7 E).run s2=y at c2 h3 l3 ⊢;obtain ⟨x2,s3⟩:=y;simp only at c2 h3 l3 ⊢;have b3:(σ.AH i (rsA L s3)).blk i=some (rsA L s3):=AX;obtain ⟨o2,n2,u2,ns2,ks2,al2⟩:=x2;simp only [exA,Ex.AS,AB,AE] at c2 ⊢)
   simp only [E1,exN,Ex.AS,AB,AE]
   (repeat' (first|refine ctQ rfl ?_|((first|refine rgQ mxQ ?_|refine cdQ ?_|refine Run.A2 Be (AK.le_refl _) ?_|(refine AD.upd c0 ?_)|(refine AD.upd c1 ?_)|(refine AD.upd c2 ?_)|refine AD.det (f1) ?_|refine AD.det (f2) ?_|refine AD.det (f3) ?_|refine AD.det (f4) ?_|refine AD.det (f5) ?_|refine AD.det (z0) ?_|refine AD.det (z1) ?_)<;>try simp -implicitDefEqProofs only [b0',go_sem])|fail))
  |false=>
  have z2:=CN h1 _ _ b1 q2
  simp only [if_false,AL,Ex.AS,AB,AE]
  (repeat' (first|refine ctQ rfl ?_|((first|refine rgQ mxQ ?_|refine cdQ ?_|refine Run.A2 Be (AK.le_refl _) ?_|(refine AD.upd c0 ?_)|refine AD.det (f1) ?_|refine AD.det (f2) ?_|refine AD.det (f3) ?_|refine AD.det (f4) ?_|refine AD.det (f5) ?_|refine AD.det (z0) ?_|refine AD.det (z1) ?_|refine AD.det (z2) ?_)<;>try simp -implicitDefEqProofs only [b0',go_sem])|fail))
end Go.Ab
namespace Go.Ab
def n9:AV→Option Nat
 | .own t _ _ _=>some t
 |_=>none
def Xe (v w:AV):Prop:=∀t,n9 v=some t→n9 w≠some t
theorem Xe.symm {v w:AV} (h:Xe v w):Xe w v:=fun t h1 h2=>h t h2 h1
theorem ZQ (w:AV):Xe .AO w:=fun t h=>by cases h
theorem Cg.Wy {σ0 σ σ':AK} {e s:Nat} {rows:List (List DV)} {w:AV} (h:Cg σ0 e s rows w σ) (hle:σ0.le σ') (ht:∀t,n9 w=some t→σ.tok t=true→σ'.tok t=true):Cg σ0 e s rows w σ':=by
 obtain ⟨⟨σ1,ha,hl⟩,_,h1,h2,h3,h4,h5,h6,h7⟩:=h
 refine ⟨?_,hle,h1,h2,h3,h4,h5,h6,h7⟩
 unfold QA at ha ⊢
 split at ha
 · cases ha;exact ⟨σ',rfl,hle⟩
 · rename_i t e' s' rows'
   split at ha
   · rename_i hc
     cases ha
     obtain ⟨q1,q2,q3⟩:=hc
     refine ⟨σ'.FL t,by rw [if_pos ⟨q1,q2,ht t rfl q3⟩],⟨hle.blk,fun t' h'=>?_,hle.gt,hle.bt⟩⟩
     have hne:t'≠t:=fun e=>by
      have:=hl.tok t' h'
      simp [AK.FL,e] at this
     simp [AK.FL,hne,hle.tok t' h']
   · cases ha
 · cases ha
theorem JJ.z7 {cx:Cx} {K:Fm→Lm→AK→Prop} {F:Fm} {L:Lm} {σ σ0:AK} {d:Option Nat} {e size bytes:Nat} {s x:AV} {rows srows:List (List DV)} (ho:Cg σ0 e size rows s σ) (h2:x.rows=some srows)
 (h3:∀r∈srows,r.length=size) (h4:rows.length+srows.length≤1000000000) (hb:bytes≤10000)
 (h:∀v σ',Cg σ0 e size (rows++srows) v σ'→(∀i,σ'.blk i=σ.blk i)→(∀e2 s2 rows2 w,Cg σ0 e2 s2 rows2 w σ→Xe s w→Cg σ0 e2 s2 rows2 w σ'∧Xe v w)→K (At d v F) L σ'):JJ e size bytes s x d K F L σ:=by
 obtain ⟨σ1,ha,hl⟩:=ho.app
 have hblk:∀i,σ1.blk i=σ.blk i:=fun i=>by
  unfold QA at ha
  split at ha
  · cases ha;rfl
  · split at ha
    · cases ha;rfl
    · cases ha
  · cases ha
 have htok:∀t,n9 s≠some t→σ.tok t=true→σ1.tok t=true:=fun t hne ht=>by
  unfold QA at ha
  split at ha
  · cases ha;exact ht
  · rename_i ts e' s' rows'
    split at ha
    · cases ha
      have:t≠ts:=fun e=>hne (by rw [e];rfl)
      simp [AK.FL,this,ht]
    · cases ha
  · cases ha
 refine JJ.mk ha h2 h3 (by simp only [maxLen];omega) ?_ (fun t ht=>h _ _ (Cg.own hl ho.le ht) (fun i=>by rw [Ep];exact hblk i) (fun e2 s2 rows2 w hw hap=>?_))
 · calc (rows.length+srows.length) * bytes≤1000000000 * 10000:=Ol h4 hb
    _≤140737488355328:=by decide
 · have hwt:∀t',n9 w=some t'→σ.tok t'=true:=fun t' h'=>by
    obtain ⟨_,hw1,_⟩:=hw.app
    cases w<;>simp only [n9] at h'<;>try cases h'
    simp only [QA] at hw1
    split at hw1
    · rename_i hc;exact hc.2.2
    · cases hw1
   have hown:=Cg.own (e:=e) (s:=size) (rows:=rows++srows) hl ho.le ht
   refine ⟨hw.Wy hown.le (fun t' h1 h2=>?_),fun t' h1 h3=>?_⟩
   · have:=htok t' (fun e=>hap t' e h1) h2
     simp [AK.CO,this]
   · simp only [n9,AQ] at h1
     subst h1
     rw [hwt _ h3] at ht;cases ht
end Go.Ab
