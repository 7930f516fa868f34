/- The parser: comparisons, binders, expressions. Several owned slices side by side. Conditions: none. -/
import Derived.Test.YtifplkldbbcldaaGreatDoorXRi
set_option linter.unusedSimpArgs false
set_option linter.unusedVariables false
set_option maxRecDepth 4000
set_option maxHeartbeats 8000000
open List renaming map_cons→AG,map_nil→AH,length_map→AE,length_cons→AB,length_nil→AD,length_pos_iff→Aj
open Bool renaming false_eq_true→AU
open Nat renaming mul_le_mul→Om
open Option.some renaming injEq→AR
namespace Go.Ab
open Go.Proofs
theorem Run.ACC {cx:Cx} {KK:AV→AN→Prop} {k:List CI} {F:Fm} {q0 q:Nat} {A cs:List AV} {σ σ':AN} (hσ:σ'.le σ) (h:Run cx KK k F (BZ q0 A (BZ q (AV.Ez cs) E)) σ'):Run cx KK k F (BZ q0 A (BZ q cs E)) σ:=by
 refine Run.mY (σ':=σ') (fun _=>.inl rfl) (fun _ _ h=>h) hσ (Run.vF (fun q' cs' hq=>?_) h)
 by_cases e2:q'=q0
 · subst e2
   have:cs'=A:=by simpa [BZ] using hq.symm
   exact ⟨A,by simp [BZ],.inl this⟩
 · by_cases e3:q'=q
   · subst e3
     have:cs'=AV.Ez cs:=by simpa [BZ,e2] using hq.symm
     exact ⟨cs,by simp [BZ,e2],.inr this⟩
   · simp [BZ,e2,e3,E] at hq
theorem dU:Aw Tryz.prog 172=true:=by kernel_rfl
theorem dV:Aw Tryz.prog 126=true:=by kernel_rfl
theorem ABS:Aw Tryz.prog 171=true:=by kernel_rfl
theorem ABT:Aw Tryz.prog 129=true:=by kernel_rfl
theorem tJ (E:PM Ex) (s:PSt):(XD E).run s=if opR 1 ((L3 E).run s).2.hd.text=0 then (L3 E).run s else (Hn ((opR 1 ((L3 E).run s).2.hd.text:Nat):Int) ((L3 E).run s).1 ((L3 E).run ((L3 E).run s).2.adv).1,((L3 E).run ((L3 E).run s).2.adv).2):=by
 simp only [XD,run_bind,Hb,run_pure]
 generalize (L3 E).run s=y
 obtain ⟨a,s1⟩:=y
 simp only
 rw [AEN]
 cases h0:s1.hd.text==[60] with
 |true=>simp
 |false=>
 cases h1:s1.hd.text==[60,61] with
 |true=>simp
 |false=>
 cases h2:s1.hd.text==[61,61] with
 |true=>simp
 |false=>simp
theorem xC (i:Nat) {L:List Tok} (hN:NOk L) (n:Nat) {E:PM Ex} (hE:PC 131 [.gp i 0] i L n E exA):PC 173 [.gp i 0] i L (n+1) (XD E) exA:=by
 intro σ s0 g0 h0 l0 b0
 refine SU (by simp) ?_
 rw [Ax,tJ]
 (have c0:=(wL i hN n hE) σ s0 g0 h0 (by omega) b0;have h1:=h0.run (L3 E);have l1:=PM.le (L3 E) h0.wf;generalize (L3 E).run s0=y at c0 h1 l1 ⊢;obtain ⟨x0,s1⟩:=y;simp only at c0 h1 l1 ⊢;have b1:(σ.AK i (psA L s1)).blk i=some (psA L s1):=(by rw [AO,if_pos rfl]);obtain ⟨o0,n0,u0,ns0,ks0,al0⟩:=x0;simp only [exA,Ex.A3,AG,AH] at c0 ⊢)
 have c1:=L2 h1 1 (σ.AK i (psA L s1)) b1
 rw [A2] at c1
 by_cases hc:opR 1 s1.hd.text=0
 · have hne:(((opR 1 s1.hd.text:Nat):Int) != 0)=false:=by rw [hc];rfl
   rw [if_pos hc] at c1 ⊢
   simp only [exA,exN,Ex.A3,AG,AH]
   (repeat' (first|refine Run.ct rfl ?_|((first|refine Run.reg mixed ?_|refine Run.AJ ?_|refine Run.A9 HR (AN.le_refl _) ?_|(refine AI.upd c0 ?_)|(refine AI.upd c1 ?_))<;>try simp -implicitDefEqProofs only [hne,go_sem])|fail))
 · have hne:(((opR 1 s1.hd.text:Nat):Int) != 0)=true:=by simp;exact hc
   rw [if_neg hc] at c1 ⊢
   have h2:POk L s1.adv:=by
    rcases (lT hc) with ⟨t,ht,he⟩
    exact h1.adv ht he
   have l2:=B0 h1.wf
   generalize opR 1 s1.hd.text=w at c1 hne ⊢
   generalize s1.adv=s2 at c1 h2 l2 ⊢
   have b2:(σ.AK i (psA L s2)).blk i=some (psA L s2):=(by rw [AO,if_pos rfl])
   (have c2:=(wL i hN n hE) (σ.AK i (psA L s2)) s2 g0 h2 (by omega) b2;rw [A2] at c2;have h3:=h2.run (L3 E);have l3:=PM.le (L3 E) h2.wf;generalize (L3 E).run s2=y at c2 h3 l3 ⊢;obtain ⟨x2,s3⟩:=y;simp only at c2 h3 l3 ⊢;have b3:(σ.AK i (psA L s3)).blk i=some (psA L s3):=(by rw [AO,if_pos rfl]);obtain ⟨o2,n2,u2,ns2,ks2,al2⟩:=x2;simp only [exA,Ex.A3,AG,AH] at c2 ⊢)
   have c4:=WB (w:Int) (Ex.mk o0 n0 u0 ns0 ks0 al0) (Ex.mk o2 n2 u2 ns2 ks2 al2) (σ.AK i (psA L s3))
   simp only [exA,Ex.A3,Hn,exN,AG,AH] at c4 ⊢
   (repeat' (first|refine Run.ct rfl ?_|((first|refine Run.reg mixed ?_|refine Run.AJ ?_|refine Run.A9 HR (AN.le_refl _) ?_|(refine AI.upd c0 ?_)|(refine AI.upd c1 ?_)|(refine AI.upd c2 ?_)|refine AI.det (c4) ?_)<;>try simp -implicitDefEqProofs only [hne,go_sem])|fail))
set_option maxHeartbeats 2000000 in
theorem AB0 (i:Nat) (L:List Tok) (n:Nat) {E:PM Ex} (hE:PC 131 [.gp i 0] i L n E exA):PC 169 [.gp i 0] i L n (iL E) exA:=by
 intro σ s0 g0 h0 l0 b0
 refine Td (by simp) ?_
 rw [Ax]
 simp only [iL,Hb]
 cases t0:s0.hd.text==[40] with
 |true=>
  simp only [if_true,run_bind,run_pure,exA,exN,Ex.A3,AG,AH]
  (have c0:=DM h0 [40] σ b0 t0;have h1:=h0.adv (t:=[40]) (by decide) t0;have l1:=B0 h0.wf;generalize s0.adv=s1 at c0 h1 l1 ⊢;have b1:(σ.AK i (psA L s1)).blk i=some (psA L s1):=by rw [AO,if_pos rfl])
  (have c1:=(TN i L n) (σ.AK i (psA L s1)) s1 g0 h1 (by omega) b1;rw [A2] at c1;have h2:=h1.run (Gd);have l2:=PM.le (Gd) h1.wf;generalize (Gd).run s1=y at c1 h2 l2 ⊢;obtain ⟨x1,s2⟩:=y;simp only at c1 h2 l2 ⊢;have b2:(σ.AK i (psA L s2)).blk i=some (psA L s2):=(by rw [AO,if_pos rfl]))
  (have c2:=(DN i L n [44] (by decide)) (σ.AK i (psA L s2)) s2 g0 h2 (by omega) b2;rw [A2] at c2;have h3:=h2.run (PM.exp [44] (by decide));have l3:=PM.le (PM.exp [44] (by decide)) h2.wf;generalize (PM.exp [44] (by decide)).run s2=y at c2 h3 l3 ⊢;obtain ⟨x2,s3⟩:=y;simp only at c2 h3 l3 ⊢;have b3:(σ.AK i (psA L s3)).blk i=some (psA L s3):=(by rw [AO,if_pos rfl]))
  (have d3:=fun tk:Nat=>(Ha i L n dU (TN i L n)).pc ((σ.AK i (psA L s3)).Da tk) s3 g0 h3 (by omega) (by rw [GO];exact b3);have c3:=(Ha i L n dU (TN i L n)).pc (σ.AK i (psA L s3)) s3 g0 h3 (by omega) b3;rw [A2] at c3;have h4:=h3.run (listed Gd);have l4:=PM.le (listed Gd) h3.wf;have n3:=Q1 (read:=Gd) h3.wf;generalize (listed Gd).run s3=y at c3 d3 h4 l4 n3 ⊢;obtain ⟨x3,s4⟩:=y;simp only at c3 d3 h4 l4 n3 ⊢;have q3:=h0.suf.length_le;have q3':=h0.len)
  have b4:(σ.AK i (psA L s4)).blk i=some (psA L s4):=(by rw [AO,if_pos rfl])
  (have c4:=(DN i L n [61] (by decide)) (σ.AK i (psA L s4)) s4 g0 h4 (by omega) b4;rw [A2] at c4;have h5:=h4.run (PM.exp [61] (by decide));have l5:=PM.le (PM.exp [61] (by decide)) h4.wf;generalize (PM.exp [61] (by decide)).run s4=y at c4 h5 l5 ⊢;obtain ⟨x4,s5⟩:=y;simp only at c4 h5 l5 ⊢;have b5:(σ.AK i (psA L s5)).blk i=some (psA L s5):=(by rw [AO,if_pos rfl]))
  (have c5:=hE (σ.AK i (psA L s5)) s5 g0 h5 (by omega) b5;rw [A2] at c5;have h6:=h5.run (E);have l6:=PM.le (E) h5.wf;generalize (E).run s5=y at c5 h6 l6 ⊢;obtain ⟨x5,s6⟩:=y;simp only at c5 h6 l6 ⊢;have b6:(σ.AK i (psA L s6)).blk i=some (psA L s6):=(by rw [AO,if_pos rfl]);obtain ⟨o5,n5,u5,ns5,ks5,al5⟩:=x5;simp only [exA,Ex.A3,AG,AH] at c5 ⊢)
  (have c6:=(DN i L n [105,110] (by decide)) (σ.AK i (psA L s6)) s6 g0 h6 (by omega) b6;rw [A2] at c6;have h7:=h6.run (PM.exp [105,110] (by decide));have l7:=PM.le (PM.exp [105,110] (by decide)) h6.wf;generalize (PM.exp [105,110] (by decide)).run s6=y at c6 h7 l7 ⊢;obtain ⟨x6,s7⟩:=y;simp only at c6 h7 l7 ⊢;have b7:(σ.AK i (psA L s7)).blk i=some (psA L s7):=(by rw [AO,if_pos rfl]))
  (have c7:=hE (σ.AK i (psA L s7)) s7 g0 h7 (by omega) b7;rw [A2] at c7;have h8:=h7.run (E);have l8:=PM.le (E) h7.wf;generalize (E).run s7=y at c7 h8 l8 ⊢;obtain ⟨x7,s8⟩:=y;simp only at c7 h8 l8 ⊢;have b8:(σ.AK i (psA L s8)).blk i=some (psA L s8):=(by rw [AO,if_pos rfl]);obtain ⟨o7,n7,u7,ns7,ks7,al7⟩:=x7;simp only [exA,Ex.A3,AG,AH] at c7 ⊢)
  (repeat' (first|refine Run.ct rfl ?_|((first|refine Run.reg mixed ?_|refine Run.AJ ?_|(refine AI.upd c0 ?_)|(refine AI.upd c1 ?_)|(refine AI.upd c2 ?_))<;>try simp -implicitDefEqProofs only [go_sem])|fail))
  refine Ia.own rfl (by decide) (fun tk htk=>?_);simp -implicitDefEqProofs only [go_sem]
  refine AI.upd (d3 tk) ?_;simp -implicitDefEqProofs only [go_sem]
  (apply LS.tok (LS.yH htk s4);rfl;exact (N1 _ _ (fun _=>rfl));(simp only [AE,AB,AD];omega);decide;intro v2 τ2 ho);simp -implicitDefEqProofs only [ho.own.BJ,ho.own.As,ho.own.cells,ho.own.cell,ho.own.plain,ho.own.dv,if_true,go_sem]
  refine Run.ACC ho.le ?_
  simp only [AV.Ez,AV.plain,ho.own.plain]
  (repeat' (first|refine Run.ct rfl ?_|((first|refine Run.reg mixed ?_|refine Run.AJ ?_|refine Run.A9 Ho (AN.le_refl _) ?_|(refine AI.upd c4 ?_)|(refine AI.upd c5 ?_)|(refine AI.upd c6 ?_)|(refine AI.upd c7 ?_))<;>try simp -implicitDefEqProofs only [go_sem])|fail))
  rfl
 |false=>
  have f0:=DL h0 _ σ b0 t0
  simp only [if_false,AU,run_bind,run_pure,exA,exN,Ex.A3,AG,AH]
  (have c0:=(TN i L n) σ s0 g0 h0 (by omega) b0;have h1:=h0.run (Gd);have l1:=PM.le (Gd) h0.wf;generalize (Gd).run s0=y at c0 h1 l1 ⊢;obtain ⟨x0,s1⟩:=y;simp only at c0 h1 l1 ⊢;have b1:(σ.AK i (psA L s1)).blk i=some (psA L s1):=(by rw [AO,if_pos rfl]))
  (have c1:=(DN i L n [61] (by decide)) (σ.AK i (psA L s1)) s1 g0 h1 (by omega) b1;rw [A2] at c1;have h2:=h1.run (PM.exp [61] (by decide));have l2:=PM.le (PM.exp [61] (by decide)) h1.wf;generalize (PM.exp [61] (by decide)).run s1=y at c1 h2 l2 ⊢;obtain ⟨x1,s2⟩:=y;simp only at c1 h2 l2 ⊢;have b2:(σ.AK i (psA L s2)).blk i=some (psA L s2):=(by rw [AO,if_pos rfl]))
  (have c2:=hE (σ.AK i (psA L s2)) s2 g0 h2 (by omega) b2;rw [A2] at c2;have h3:=h2.run (E);have l3:=PM.le (E) h2.wf;generalize (E).run s2=y at c2 h3 l3 ⊢;obtain ⟨x2,s3⟩:=y;simp only at c2 h3 l3 ⊢;have b3:(σ.AK i (psA L s3)).blk i=some (psA L s3):=(by rw [AO,if_pos rfl]);obtain ⟨o2,n2,u2,ns2,ks2,al2⟩:=x2;simp only [exA,Ex.A3,AG,AH] at c2 ⊢)
  (have c3:=(DN i L n [105,110] (by decide)) (σ.AK i (psA L s3)) s3 g0 h3 (by omega) b3;rw [A2] at c3;have h4:=h3.run (PM.exp [105,110] (by decide));have l4:=PM.le (PM.exp [105,110] (by decide)) h3.wf;generalize (PM.exp [105,110] (by decide)).run s3=y at c3 h4 l4 ⊢;obtain ⟨x3,s4⟩:=y;simp only at c3 h4 l4 ⊢;have b4:(σ.AK i (psA L s4)).blk i=some (psA L s4):=(by rw [AO,if_pos rfl]))
  (have c4:=hE (σ.AK i (psA L s4)) s4 g0 h4 (by omega) b4;rw [A2] at c4;have h5:=h4.run (E);have l5:=PM.le (E) h4.wf;generalize (E).run s4=y at c4 h5 l5 ⊢;obtain ⟨x4,s5⟩:=y;simp only at c4 h5 l5 ⊢;have b5:(σ.AK i (psA L s5)).blk i=some (psA L s5):=(by rw [AO,if_pos rfl]);obtain ⟨o4,n4,u4,ns4,ks4,al4⟩:=x4;simp only [exA,Ex.A3,AG,AH] at c4 ⊢)
  (repeat' (first|refine Run.ct rfl ?_|((first|refine Run.reg mixed ?_|refine Run.AJ ?_|refine Run.A9 Ho (AN.le_refl _) ?_|(refine AI.upd c0 ?_)|(refine AI.upd c1 ?_)|(refine AI.upd c2 ?_)|(refine AI.upd c3 ?_)|(refine AI.upd c4 ?_)|refine AI.det (f0) ?_)<;>try simp -implicitDefEqProofs only [go_sem])|fail))
theorem AA4 (i:Nat) (L:List Tok) (n:Nat) {E:PM Ex} (hE:PC 131 [.gp i 0] i L n E exA):PC 171 [.gp i 0] i L n (lU E) alA:=by
 intro σ s0 g0 h0 l0 b0
 refine T9 (by simp) ?_
 rw [Ax]
 simp only [lU,run_bind,run_pure]
 (have c0:=(TG i L n) σ s0 g0 h0 (by omega) b0;have h1:=h0.run (F4);have l1:=PM.le (F4) h0.wf;generalize (F4).run s0=y at c0 h1 l1 ⊢;obtain ⟨x0,s1⟩:=y;simp only at c0 h1 l1 ⊢;have b1:(σ.AK i (psA L s1)).blk i=some (psA L s1):=(by rw [AO,if_pos rfl]))
 (have c1:=((PV i L n dU (TN i L n)).pc.mono (Nat.le_succ n)) (σ.AK i (psA L s1)) s1 g0 h1 (by omega) b1;rw [A2] at c1;have h2:=h1.run (I6 Gd);have l2:=PM.le (I6 Gd) h1.wf;generalize (I6 Gd).run s1=y at c1 h2 l2 ⊢;obtain ⟨x1,s2⟩:=y;simp only at c1 h2 l2 ⊢;have b2:(σ.AK i (psA L s2)).blk i=some (psA L s2):=(by rw [AO,if_pos rfl]))
 (have c2:=(DN i L n [45,62] (by decide)) (σ.AK i (psA L s2)) s2 g0 h2 (by omega) b2;rw [A2] at c2;have h3:=h2.run (PM.exp [45,62] (by decide));have l3:=PM.le (PM.exp [45,62] (by decide)) h2.wf;generalize (PM.exp [45,62] (by decide)).run s2=y at c2 h3 l3 ⊢;obtain ⟨x2,s3⟩:=y;simp only at c2 h3 l3 ⊢;have b3:(σ.AK i (psA L s3)).blk i=some (psA L s3):=(by rw [AO,if_pos rfl]))
 (have c3:=hE (σ.AK i (psA L s3)) s3 g0 h3 (by omega) b3;rw [A2] at c3;have h4:=h3.run (E);have l4:=PM.le (E) h3.wf;generalize (E).run s3=y at c3 h4 l4 ⊢;obtain ⟨x3,s4⟩:=y;simp only at c3 h4 l4 ⊢;have b4:(σ.AK i (psA L s4)).blk i=some (psA L s4):=(by rw [AO,if_pos rfl]);obtain ⟨o3,n3,u3,ns3,ks3,al3⟩:=x3;simp only [exA,Ex.A3,AG,AH] at c3 ⊢)
 simp only [alA,Al.A3,AG,AH]
 (repeat' (first|refine Run.ct rfl ?_|((first|refine Run.reg mixed ?_|refine Run.AJ ?_|refine Run.A9 MR (AN.le_refl _) ?_|(refine AI.upd c0 ?_)|(refine AI.upd c1 ?_)|(refine AI.upd c2 ?_)|(refine AI.upd c3 ?_))<;>try simp -implicitDefEqProofs only [go_sem])|fail))
set_option maxHeartbeats 4000000 in
theorem nR (i:Nat) {L:List Tok} (hN:NOk L):∀n,PC 131 [.gp i 0] i L n (CJ n) exA
 |0=>fun σ s _ h1 h2 h3=>by have:=Aj.2 h1.wf.ne;omega
 |n+1=>by
  have ih:=nR i hN n
  intro σ s0 g0 h0 l0 b0
  refine SX (by simp) ?_
  rw [Ax,CJ]
  simp only [Hb]
  cases t1:s0.hd.text==[108,101,116] with
  |true=>
   simp only [if_true]
   (have c0:=DM h0 [108,101,116] σ b0 t1;have h1:=h0.adv (t:=[108,101,116]) (by decide) t1;have l1:=B0 h0.wf;generalize s0.adv=s1 at c0 h1 l1 ⊢;have b1:(σ.AK i (psA L s1)).blk i=some (psA L s1):=by rw [AO,if_pos rfl])
   (have c1:=(AB0 i L n ih) (σ.AK i (psA L s1)) s1 g0 h1 (by omega) b1;rw [A2] at c1;have h2:=h1.run (iL (CJ n));have l2:=PM.le (iL (CJ n)) h1.wf;generalize (iL (CJ n)).run s1=y at c1 h2 l2 ⊢;obtain ⟨x1,s2⟩:=y;simp only at c1 h2 l2 ⊢;have b2:(σ.AK i (psA L s2)).blk i=some (psA L s2):=(by rw [AO,if_pos rfl]);obtain ⟨o1,n1,u1,ns1,ks1,al1⟩:=x1;simp only [exA,Ex.A3,AG,AH] at c1 ⊢)
   (repeat' (first|refine Run.ct rfl ?_|((first|refine Run.reg mixed ?_|refine Run.AJ ?_|refine Run.A9 C2 (AN.le_refl _) ?_|(refine AI.upd c0 ?_)|(refine AI.upd c1 ?_))<;>try simp -implicitDefEqProofs only [go_sem])|fail))
  |false=>
  have f1:=DL h0 _ σ b0 t1
  cases t2:s0.hd.text==[105,102] with
  |true=>
   simp only [if_true,if_false,AU,run_bind,run_pure,exA,exN,Ex.A3,AG,AH]
   (have c0:=DM h0 [105,102] σ b0 t2;have h1:=h0.adv (t:=[105,102]) (by decide) t2;have l1:=B0 h0.wf;generalize s0.adv=s1 at c0 h1 l1 ⊢;have b1:(σ.AK i (psA L s1)).blk i=some (psA L s1):=by rw [AO,if_pos rfl])
   (have c1:=ih (σ.AK i (psA L s1)) s1 g0 h1 (by omega) b1;rw [A2] at c1;have h2:=h1.run (CJ n);have l2:=PM.le (CJ n) h1.wf;generalize (CJ n).run s1=y at c1 h2 l2 ⊢;obtain ⟨x1,s2⟩:=y;simp only at c1 h2 l2 ⊢;have b2:(σ.AK i (psA L s2)).blk i=some (psA L s2):=(by rw [AO,if_pos rfl]);obtain ⟨o1,n1,u1,ns1,ks1,al1⟩:=x1;simp only [exA,Ex.A3,AG,AH] at c1 ⊢)
   (have c2:=(DN i L n [116,104,101,110] (by decide)) (σ.AK i (psA L s2)) s2 g0 h2 (by omega) b2;rw [A2] at c2;have h3:=h2.run (PM.exp [116,104,101,110] (by decide));have l3:=PM.le (PM.exp [116,104,101,110] (by decide)) h2.wf;generalize (PM.exp [116,104,101,110] (by decide)).run s2=y at c2 h3 l3 ⊢;obtain ⟨x2,s3⟩:=y;simp only at c2 h3 l3 ⊢;have b3:(σ.AK i (psA L s3)).blk i=some (psA L s3):=(by rw [AO,if_pos rfl]))
   (have c3:=ih (σ.AK i (psA L s3)) s3 g0 h3 (by omega) b3;rw [A2] at c3;have h4:=h3.run (CJ n);have l4:=PM.le (CJ n) h3.wf;generalize (CJ n).run s3=y at c3 h4 l4 ⊢;obtain ⟨x3,s4⟩:=y;simp only at c3 h4 l4 ⊢;have b4:(σ.AK i (psA L s4)).blk i=some (psA L s4):=(by rw [AO,if_pos rfl]);obtain ⟨o3,n3,u3,ns3,ks3,al3⟩:=x3;simp only [exA,Ex.A3,AG,AH] at c3 ⊢)
   (have c4:=(DN i L n [101,108,115,101] (by decide)) (σ.AK i (psA L s4)) s4 g0 h4 (by omega) b4;rw [A2] at c4;have h5:=h4.run (PM.exp [101,108,115,101] (by decide));have l5:=PM.le (PM.exp [101,108,115,101] (by decide)) h4.wf;generalize (PM.exp [101,108,115,101] (by decide)).run s4=y at c4 h5 l5 ⊢;obtain ⟨x4,s5⟩:=y;simp only at c4 h5 l5 ⊢;have b5:(σ.AK i (psA L s5)).blk i=some (psA L s5):=(by rw [AO,if_pos rfl]))
   (have c5:=ih (σ.AK i (psA L s5)) s5 g0 h5 (by omega) b5;rw [A2] at c5;have h6:=h5.run (CJ n);have l6:=PM.le (CJ n) h5.wf;generalize (CJ n).run s5=y at c5 h6 l6 ⊢;obtain ⟨x5,s6⟩:=y;simp only at c5 h6 l6 ⊢;have b6:(σ.AK i (psA L s6)).blk i=some (psA L s6):=(by rw [AO,if_pos rfl]);obtain ⟨o5,n5,u5,ns5,ks5,al5⟩:=x5;simp only [exA,Ex.A3,AG,AH] at c5 ⊢)
   (repeat' (first|refine Run.ct rfl ?_|((first|refine Run.reg mixed ?_|refine Run.AJ ?_|refine Run.A9 C2 (AN.le_refl _) ?_|(refine AI.upd c0 ?_)|(refine AI.upd c1 ?_)|(refine AI.upd c2 ?_)|(refine AI.upd c3 ?_)|(refine AI.upd c4 ?_)|(refine AI.upd c5 ?_)|refine AI.det (f1) ?_)<;>try simp -implicitDefEqProofs only [go_sem])|fail))
  |false=>
  have f2:=DL h0 _ σ b0 t2
  cases t3:s0.hd.text==[109,97,116,99,104] with
  |true=>
   simp only [if_true,if_false,AU,run_bind,run_pure,exA,exN,Ex.A3,AG,AH]
   (have c0:=DM h0 [109,97,116,99,104] σ b0 t3;have h1:=h0.adv (t:=[109,97,116,99,104]) (by decide) t3;have l1:=B0 h0.wf;generalize s0.adv=s1 at c0 h1 l1 ⊢;have b1:(σ.AK i (psA L s1)).blk i=some (psA L s1):=by rw [AO,if_pos rfl])
   (have c1:=ih (σ.AK i (psA L s1)) s1 g0 h1 (by omega) b1;rw [A2] at c1;have h2:=h1.run (CJ n);have l2:=PM.le (CJ n) h1.wf;generalize (CJ n).run s1=y at c1 h2 l2 ⊢;obtain ⟨x1,s2⟩:=y;simp only at c1 h2 l2 ⊢;have b2:(σ.AK i (psA L s2)).blk i=some (psA L s2):=(by rw [AO,if_pos rfl]);obtain ⟨o1,n1,u1,ns1,ks1,al1⟩:=x1;simp only [exA,Ex.A3,AG,AH] at c1 ⊢)
   (have c2:=(DN i L n [119,105,116,104] (by decide)) (σ.AK i (psA L s2)) s2 g0 h2 (by omega) b2;rw [A2] at c2;have h3:=h2.run (PM.exp [119,105,116,104] (by decide));have l3:=PM.le (PM.exp [119,105,116,104] (by decide)) h2.wf;generalize (PM.exp [119,105,116,104] (by decide)).run s2=y at c2 h3 l3 ⊢;obtain ⟨x2,s3⟩:=y;simp only at c2 h3 l3 ⊢;have b3:(σ.AK i (psA L s3)).blk i=some (psA L s3):=(by rw [AO,if_pos rfl]))
   (have c3:=(WQ i L n ABS (AA4 i L n ih) [124] (by decide)).pc (σ.AK i (psA L s3)) s3 g0 h3 (by omega) b3;rw [A2] at c3;have h4:=h3.run (items (lU (CJ n)) [124] (by decide));have l4:=PM.le (items (lU (CJ n)) [124] (by decide)) h3.wf;generalize (items (lU (CJ n)) [124] (by decide)).run s3=y at c3 h4 l4 ⊢;obtain ⟨x3,s4⟩:=y;simp only at c3 h4 l4 ⊢;have b4:(σ.AK i (psA L s4)).blk i=some (psA L s4):=(by rw [AO,if_pos rfl]))
   (have c4:=(DN i L n [101,110,100] (by decide)) (σ.AK i (psA L s4)) s4 g0 h4 (by omega) b4;rw [A2] at c4;have h5:=h4.run (PM.exp [101,110,100] (by decide));have l5:=PM.le (PM.exp [101,110,100] (by decide)) h4.wf;generalize (PM.exp [101,110,100] (by decide)).run s4=y at c4 h5 l5 ⊢;obtain ⟨x4,s5⟩:=y;simp only at c4 h5 l5 ⊢;have b5:(σ.AK i (psA L s5)).blk i=some (psA L s5):=(by rw [AO,if_pos rfl]))
   (repeat' (first|refine Run.ct rfl ?_|((first|refine Run.reg mixed ?_|refine Run.AJ ?_|refine Run.A9 C2 (AN.le_refl _) ?_|(refine AI.upd c0 ?_)|(refine AI.upd c1 ?_)|(refine AI.upd c2 ?_)|(refine AI.upd c3 ?_)|(refine AI.upd c4 ?_)|refine AI.det (f1) ?_|refine AI.det (f2) ?_)<;>try simp -implicitDefEqProofs only [go_sem])|fail))
  |false=>
  have f3:=DL h0 _ σ b0 t3
  cases t4:s0.hd.text==[102,110] with
  |true=>
   simp only [if_true,if_false,AU,run_bind,run_pure,exA,exN,Ex.A3,AG,AH]
   (have c0:=DM h0 [102,110] σ b0 t4;have h1:=h0.adv (t:=[102,110]) (by decide) t4;have l1:=B0 h0.wf;generalize s0.adv=s1 at c0 h1 l1 ⊢;have b1:(σ.AK i (psA L s1)).blk i=some (psA L s1):=by rw [AO,if_pos rfl])
   (have c1:=(DN i L n [40] (by decide)) (σ.AK i (psA L s1)) s1 g0 h1 (by omega) b1;rw [A2] at c1;have h2:=h1.run (PM.exp [40] (by decide));have l2:=PM.le (PM.exp [40] (by decide)) h1.wf;generalize (PM.exp [40] (by decide)).run s1=y at c1 h2 l2 ⊢;obtain ⟨x1,s2⟩:=y;simp only at c1 h2 l2 ⊢;have b2:(σ.AK i (psA L s2)).blk i=some (psA L s2):=(by rw [AO,if_pos rfl]))
   (have c2:=(Ow i L n dV (Q3 i L n)).pc (σ.AK i (psA L s2)) s2 g0 h2 (by omega) b2;rw [A2] at c2;have h3:=h2.run (closed Fp);have l3:=PM.le (closed Fp) h2.wf;generalize (closed Fp).run s2=y at c2 h3 l3 ⊢;obtain ⟨x2,s3⟩:=y;simp only at c2 h3 l3 ⊢;have b3:(σ.AK i (psA L s3)).blk i=some (psA L s3):=(by rw [AO,if_pos rfl]))
   (have c3:=(DN i L n [45,62] (by decide)) (σ.AK i (psA L s3)) s3 g0 h3 (by omega) b3;rw [A2] at c3;have h4:=h3.run (PM.exp [45,62] (by decide));have l4:=PM.le (PM.exp [45,62] (by decide)) h3.wf;generalize (PM.exp [45,62] (by decide)).run s3=y at c3 h4 l4 ⊢;obtain ⟨x3,s4⟩:=y;simp only at c3 h4 l4 ⊢;have b4:(σ.AK i (psA L s4)).blk i=some (psA L s4):=(by rw [AO,if_pos rfl]))
   (have c4:=ih (σ.AK i (psA L s4)) s4 g0 h4 (by omega) b4;rw [A2] at c4;have h5:=h4.run (CJ n);have l5:=PM.le (CJ n) h4.wf;generalize (CJ n).run s4=y at c4 h5 l5 ⊢;obtain ⟨x4,s5⟩:=y;simp only at c4 h5 l5 ⊢;have b5:(σ.AK i (psA L s5)).blk i=some (psA L s5):=(by rw [AO,if_pos rfl]);obtain ⟨o4,n4,u4,ns4,ks4,al4⟩:=x4;simp only [exA,Ex.A3,AG,AH] at c4 ⊢)
   (repeat' (first|refine Run.ct rfl ?_|((first|refine Run.reg mixed ?_|refine Run.AJ ?_|refine Run.A9 C2 (AN.le_refl _) ?_|(refine AI.upd c0 ?_)|(refine AI.upd c1 ?_)|(refine AI.upd c2 ?_)|(refine AI.upd c3 ?_)|(refine AI.upd c4 ?_)|refine AI.det (f1) ?_|refine AI.det (f2) ?_|refine AI.det (f3) ?_)<;>try simp -implicitDefEqProofs only [go_sem])|fail))
  |false=>
  have f4:=DL h0 _ σ b0 t4
  cases t5:s0.hd.text==[116,114,121] with
  |true=>
   simp only [if_true,if_false,AU,run_bind,run_pure,exA,exN,Ex.A3,AG,AH]
   (have c0:=DM h0 [116,114,121] σ b0 t5;have h1:=h0.adv (t:=[116,114,121]) (by decide) t5;have l1:=B0 h0.wf;generalize s0.adv=s1 at c0 h1 l1 ⊢;have b1:(σ.AK i (psA L s1)).blk i=some (psA L s1):=by rw [AO,if_pos rfl])
   (have c1:=ih (σ.AK i (psA L s1)) s1 g0 h1 (by omega) b1;rw [A2] at c1;have h2:=h1.run (CJ n);have l2:=PM.le (CJ n) h1.wf;generalize (CJ n).run s1=y at c1 h2 l2 ⊢;obtain ⟨x1,s2⟩:=y;simp only at c1 h2 l2 ⊢;have b2:(σ.AK i (psA L s2)).blk i=some (psA L s2):=(by rw [AO,if_pos rfl]);obtain ⟨o1,n1,u1,ns1,ks1,al1⟩:=x1;simp only [exA,Ex.A3,AG,AH] at c1 ⊢)
   (have c2:=(DN i L n [99,97,116,99,104] (by decide)) (σ.AK i (psA L s2)) s2 g0 h2 (by omega) b2;rw [A2] at c2;have h3:=h2.run (PM.exp [99,97,116,99,104] (by decide));have l3:=PM.le (PM.exp [99,97,116,99,104] (by decide)) h2.wf;generalize (PM.exp [99,97,116,99,104] (by decide)).run s2=y at c2 h3 l3 ⊢;obtain ⟨x2,s3⟩:=y;simp only at c2 h3 l3 ⊢;have b3:(σ.AK i (psA L s3)).blk i=some (psA L s3):=(by rw [AO,if_pos rfl]))
   (have c3:=(TN i L n) (σ.AK i (psA L s3)) s3 g0 h3 (by omega) b3;rw [A2] at c3;have h4:=h3.run (Gd);have l4:=PM.le (Gd) h3.wf;generalize (Gd).run s3=y at c3 h4 l4 ⊢;obtain ⟨x3,s4⟩:=y;simp only at c3 h4 l4 ⊢;have b4:(σ.AK i (psA L s4)).blk i=some (psA L s4):=(by rw [AO,if_pos rfl]))
   (have c4:=(DN i L n [45,62] (by decide)) (σ.AK i (psA L s4)) s4 g0 h4 (by omega) b4;rw [A2] at c4;have h5:=h4.run (PM.exp [45,62] (by decide));have l5:=PM.le (PM.exp [45,62] (by decide)) h4.wf;generalize (PM.exp [45,62] (by decide)).run s4=y at c4 h5 l5 ⊢;obtain ⟨x4,s5⟩:=y;simp only at c4 h5 l5 ⊢;have b5:(σ.AK i (psA L s5)).blk i=some (psA L s5):=(by rw [AO,if_pos rfl]))
   (have c5:=ih (σ.AK i (psA L s5)) s5 g0 h5 (by omega) b5;rw [A2] at c5;have h6:=h5.run (CJ n);have l6:=PM.le (CJ n) h5.wf;generalize (CJ n).run s5=y at c5 h6 l6 ⊢;obtain ⟨x5,s6⟩:=y;simp only at c5 h6 l6 ⊢;have b6:(σ.AK i (psA L s6)).blk i=some (psA L s6):=(by rw [AO,if_pos rfl]);obtain ⟨o5,n5,u5,ns5,ks5,al5⟩:=x5;simp only [exA,Ex.A3,AG,AH] at c5 ⊢)
   (have c6:=(DN i L n [101,110,100] (by decide)) (σ.AK i (psA L s6)) s6 g0 h6 (by omega) b6;rw [A2] at c6;have h7:=h6.run (PM.exp [101,110,100] (by decide));have l7:=PM.le (PM.exp [101,110,100] (by decide)) h6.wf;generalize (PM.exp [101,110,100] (by decide)).run s6=y at c6 h7 l7 ⊢;obtain ⟨x6,s7⟩:=y;simp only at c6 h7 l7 ⊢;have b7:(σ.AK i (psA L s7)).blk i=some (psA L s7):=(by rw [AO,if_pos rfl]))
   (repeat' (first|refine Run.ct rfl ?_|((first|refine Run.reg mixed ?_|refine Run.AJ ?_|refine Run.A9 C2 (AN.le_refl _) ?_|(refine AI.upd c0 ?_)|(refine AI.upd c1 ?_)|(refine AI.upd c2 ?_)|(refine AI.upd c3 ?_)|(refine AI.upd c4 ?_)|(refine AI.upd c5 ?_)|(refine AI.upd c6 ?_)|refine AI.det (f1) ?_|refine AI.det (f2) ?_|refine AI.det (f3) ?_|refine AI.det (f4) ?_)<;>try simp -implicitDefEqProofs only [go_sem])|fail))
  |false=>
  have f5:=DL h0 _ σ b0 t5
  simp only [if_false,AU]
  (have c0:=(xC i hN n ih) σ s0 g0 h0 (by omega) b0;have h1:=h0.run (XD (CJ n));have l1:=PM.le (XD (CJ n)) h0.wf;generalize (XD (CJ n)).run s0=y at c0 h1 l1 ⊢;obtain ⟨x0,s1⟩:=y;simp only at c0 h1 l1 ⊢;have b1:(σ.AK i (psA L s1)).blk i=some (psA L s1):=(by rw [AO,if_pos rfl]);obtain ⟨o0,n0,u0,ns0,ks0,al0⟩:=x0;simp only [exA,Ex.A3,AG,AH] at c0 ⊢)
  (repeat' (first|refine Run.ct rfl ?_|((first|refine Run.reg mixed ?_|refine Run.AJ ?_|refine Run.A9 C2 (AN.le_refl _) ?_|(refine AI.upd c0 ?_)|refine AI.det (f1) ?_|refine AI.det (f2) ?_|refine AI.det (f3) ?_|refine AI.det (f4) ?_|refine AI.det (f5) ?_)<;>try simp -implicitDefEqProofs only [go_sem])|fail))
end Go.Ab
namespace Go.Ab
def mU:AV→Option Nat
 | .own t _ _ _=>some t
 |_=>none
def Xr (v w:AV):Prop:=∀t,mU v=some t→mU w≠some t
theorem Xr.symm {v w:AV} (h:Xr v w):Xr w v:=fun t h1 h2=>h t h2 h1
theorem j6 (w:AV):Xr .AX w:=fun t h=>by cases h
theorem D8.WR {σ0 σ σ':AN} {e s:Nat} {rows:List (List DV)} {w:AV} (h:D8 σ0 e s rows w σ) (hle:σ0.le σ') (ht:∀t,mU w=some t→σ.tok t=true→σ'.tok t=true):D8 σ0 e s rows w σ':=by
 obtain ⟨⟨σ1,ha,hl⟩,_,h1,h2,h3,h4,h5,h6,h7⟩:=h
 refine ⟨?_,hle,h1,h2,h3,h4,h5,h6,h7⟩
 unfold Pv at ha ⊢
 split at ha
 · cases ha;exact ⟨σ',rfl,hle⟩
 · rename_i t e' s' rows'
   split at ha
   · rename_i hc
     cases ha
     obtain ⟨q1,q2,q3⟩:=hc
     refine ⟨σ'.FN t,by rw [if_pos ⟨q1,q2,ht t rfl q3⟩],⟨hle.blk,fun t' h'=>?_,hle.gt,hle.bt⟩⟩
     have hne:t'≠t:=fun e=>by
      have:=hl.tok t' h'
      simp [AN.FN,e] at this
     simp [AN.FN,hne,hle.tok t' h']
   · cases ha
 · cases ha
theorem JH.ADY {cx:Cx} {K:Fm→Lm→AN→Prop} {F:Fm} {L:Lm} {σ σ0:AN} {d:Option Nat} {e size bytes:Nat} {s x:AV} {rows srows:List (List DV)} (ho:D8 σ0 e size rows s σ) (h2:x.rows=some srows)
 (h3:∀r∈srows,r.length=size) (h4:rows.length+srows.length≤1000000000) (hb:bytes≤10000)
 (h:∀v σ',D8 σ0 e size (rows++srows) v σ'→(∀i,σ'.blk i=σ.blk i)→(∀e2 s2 rows2 w,D8 σ0 e2 s2 rows2 w σ→Xr s w→D8 σ0 e2 s2 rows2 w σ'∧Xr v w)→K (At d v F) L σ'):JH e size bytes s x d K F L σ:=by
 obtain ⟨σ1,ha,hl⟩:=ho.app
 have hblk:∀i,σ1.blk i=σ.blk i:=fun i=>by
  unfold Pv at ha
  split at ha
  · cases ha;rfl
  · split at ha
    · cases ha;rfl
    · cases ha
  · cases ha
 have htok:∀t,mU s≠some t→σ.tok t=true→σ1.tok t=true:=fun t hne ht=>by
  unfold Pv at ha
  split at ha
  · cases ha;exact ht
  · rename_i ts e' s' rows'
    split at ha
    · cases ha
      have:t≠ts:=fun e=>hne (by rw [e];rfl)
      simp [AN.FN,this,ht]
    · cases ha
  · cases ha
 refine JH.mk ha h2 h3 (by simp only [maxLen];omega) ?_ (fun t ht=>h _ _ (D8.own hl ho.le ht) (fun i=>by rw [GO];exact hblk i) (fun e2 s2 rows2 w hw hap=>?_))
 · calc (rows.length+srows.length) * bytes≤1000000000 * 10000:=Om h4 hb
    _≤140737488355328:=by decide
 · have hwt:∀t',mU w=some t'→σ.tok t'=true:=fun t' h'=>by
    obtain ⟨_,hw1,_⟩:=hw.app
    cases w<;>simp only [mU] at h'<;>try cases h'
    simp only [Pv] at hw1
    split at hw1
    · rename_i hc;exact hc.2.2
    · cases hw1
   have hown:=D8.own (e:=e) (s:=size) (rows:=rows++srows) hl ho.le ht
   refine ⟨hw.WR hown.le (fun t' h1 h2=>?_),fun t' h1 h3=>?_⟩
   · have:=htok t' (fun e=>hap t' e h1) h2
     simp [AN.Da,this]
   · simp only [mU,AR] at h1
     subst h1
     rw [hwt _ h3] at ht;cases ht
end Go.Ab
