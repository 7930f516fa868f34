/- The parser: types. The compact codes of the functions of this seat, computed out of the translation. Conditions: none. -/
import Derived.Test.YtifplkldbbcldaaGreatDoorProg
import Derived.KernelRfl
import Derived.Test.YtifplkldbbcldaaGreatDoorXPd
set_option linter.unusedSimpArgs false
set_option linter.unusedVariables false
set_option maxRecDepth 4000
set_option maxHeartbeats 8000000
open List renaming map_cons→AB,map_nil→AE,mem_map→Lw,length_pos_iff→A5,length_map→AJ,length_cons→AG,length_nil→AI,map_append→Ax
open Bool renaming false_eq_true→AL
namespace Go.Ab
open Go.Proofs
variable {α β:Type}
theorem run_bind (m:PM α) (k:α→PM β) (s:PSt):(m.bind k).run s=(k (m.run s).1).run (m.run s).2:=rfl
theorem run_pure (a:α) (s:PSt):(PM.pure a).run s=(a,s):=rfl
theorem w8 (a:α) (s:PSt):(PM.fail a).run s=(a,s.fail):=rfl
theorem run_map (g:α→β) (m:PM α) (s:PSt):(m.map g).run s=(g (m.run s).1,(m.run s).2):=rfl
theorem j7 (k:Int) (y n:PM α) (s:PSt):(PM.kind k y n).run s=if (s.hd.kind==k)=true then y.run s else n.run s:=rfl
theorem Hn (t:Str) (ht:t≠[]) (y n:PM α) (s:PSt):(PM.acc t ht y n).run s=if (s.hd.text==t)=true then y.run s.adv else n.run s:=rfl
theorem DP (i:Nat) (L:List Tok) (n:Nat) (t:Str) (ht:t≠[]):PC 127 [.gp i 0,.d (.str t)] i L n (PM.exp t ht) (fun _=>.tup []):=fun σ s _ h1 _ h3=>Uu h1 t ht σ h3
theorem TX (i:Nat) (L:List Tok) (n:Nat):PC 124 [.gp i 0,.d (.int .i64 2)] i L n Dx (fun x=>.d (.str x)):=gW i L n 2 (by decide)
theorem oR (i:Nat) (L:List Tok) (n:Nat) {T:PM TE} (hT:PC 168 [.gp i 0] i L n T teA) (k:Int):PC 184 [.gp i 0,.d (.int .i64 k)] i L n (OQ k T) teA:=by
 intro σ s0 g0 h0 l0 b0
 refine PL (by simp) ?_
 rw [BH]
 simp only [OQ,run_bind,run_pure,teA,TE.AS,AB,AE]
 (have c0:=(DP i L n [40] (by decide)) σ s0 g0 h0 (by omega) b0;have h1:=h0.run (PM.exp [40] (by decide));have l1:=PM.le (PM.exp [40] (by decide)) h0.wf;generalize (PM.exp [40] (by decide)).run s0=y at c0 h1 l1 ⊢;obtain ⟨x0,s1⟩:=y;simp only at c0 h1 l1 ⊢;have b1:(σ.AH i (psA L s1)).blk i=some (psA L s1):=AX)
 (have c1:=hT (σ.AH i (psA L s1)) s1 g0 h1 (by omega) b1;rw [AN] at c1;have h2:=h1.run (T);have l2:=PM.le (T) h1.wf;generalize (T).run s1=y at c1 h2 l2 ⊢;obtain ⟨x1,s2⟩:=y;simp only at c1 h2 l2 ⊢;have b2:(σ.AH i (psA L s2)).blk i=some (psA L s2):=AX;obtain ⟨k0,n0,a0⟩:=x1;simp only [teA,TE.AS,AB,AE] at c1 ⊢)
 (have c2:=(DP i L n [41] (by decide)) (σ.AH i (psA L s2)) s2 g0 h2 (by omega) b2;rw [AN] at c2;have h3:=h2.run (PM.exp [41] (by decide));have l3:=PM.le (PM.exp [41] (by decide)) h2.wf;generalize (PM.exp [41] (by decide)).run s2=y at c2 h3 l3 ⊢;obtain ⟨x2,s3⟩:=y;simp only at c2 h3 l3 ⊢;have b3:(σ.AH i (psA L s3)).blk i=some (psA L s3):=AX)
 (repeat' (first|refine ctQ rfl ?_|((first|refine rgQ mxQ ?_|refine cdQ ?_|refine Run.A2 Ir (AK.le_refl _) ?_|(refine AD.upd c0 ?_)|(refine AD.upd c1 ?_)|(refine AD.upd c2 ?_))<;>try simp -implicitDefEqProofs only [go_sem])|fail))
theorem TE.vH (t:TE):t.enc.length=3:=by cases t;rw [TE.AS];rfl
theorem Ji {α:Type} {enc:α→List DV} (z:Nat) (l:List α) (h:∀x,(enc x).length=z):∀r∈l.map enc,r.length=z:=fun r hr=>by
 obtain ⟨x,_,rfl⟩:=Lw.1 hr
 exact h x
theorem Zh:Av Tryz.prog 168=true:=by kernel_rfl
set_option maxHeartbeats 4000000 in
theorem xX (i:Nat) (L:List Tok):∀n,PC 168 [.gp i 0] i L n (GK n) teA
 |0=>fun σ s _ h1 h2 h3=>by have:=A5.2 h1.wf.ne;omega
 |n+1=>by
  have ih:=xX i L n
  intro σ s0 g0 h0 l0 b0
  refine Tx (by simp) ?_
  rw [Ar]
  have hpk:=Q5 h0 σ b0
  rw [GK]
  simp only [j7,Hn]
  cases hk1:s0.hd.kind==1 with
  |true=>
   simp only [if_true,run_bind,run_pure,teA,TE.AS,AB,AE]
   (have c0:=(Q3 i L (n+1)) σ s0 g0 h0 (by omega) b0;have h1:=h0.run (E3);have l1:=PM.le (E3) h0.wf;generalize (E3).run s0=y at c0 h1 l1 ⊢;obtain ⟨x0,s1⟩:=y;simp only at c0 h1 l1 ⊢;have b1:(σ.AH i (psA L s1)).blk i=some (psA L s1):=AX)
   (repeat' (first|refine ctQ rfl ?_|((first|refine rgQ mxQ ?_|refine cdQ ?_|refine Run.A2 BT (AK.le_refl _) ?_|(refine AD.upd c0 ?_)|refine AD.det (hpk) ?_)<;>try simp -implicitDefEqProofs only [hk1,go_sem])|fail))
  |false=>
  cases hk2:s0.hd.kind==2 with
  |true=>
   simp only [if_true,if_false,AL,run_bind,run_pure,teA,TE.AS,AB,AE]
   (have c0:=(TX i L (n+1)) σ s0 g0 h0 (by omega) b0;have h1:=h0.run (Dx);have l1:=PM.le (Dx) h0.wf;generalize (Dx).run s0=y at c0 h1 l1 ⊢;obtain ⟨x0,s1⟩:=y;simp only at c0 h1 l1 ⊢;have b1:(σ.AH i (psA L s1)).blk i=some (psA L s1):=AX)
   (have c1:=(Je i L n Zh ih).pc (σ.AH i (psA L s1)) s1 g0 h1 (by omega) b1;rw [AN] at c1;have h2:=h1.run (If (GK n));have l2:=PM.le (If (GK n)) h1.wf;generalize (If (GK n)).run s1=y at c1 h2 l2 ⊢;obtain ⟨x1,s2⟩:=y;simp only at c1 h2 l2 ⊢;have b2:(σ.AH i (psA L s2)).blk i=some (psA L s2):=AX)
   (repeat' (first|refine ctQ rfl ?_|((first|refine rgQ mxQ ?_|refine cdQ ?_|refine Run.A2 BT (AK.le_refl _) ?_|(refine AD.upd c0 ?_)|(refine AD.upd c1 ?_)|refine AD.det (hpk) ?_)<;>try simp -implicitDefEqProofs only [hk1,hk2,go_sem])|fail))
  |false=>
  simp only [if_false,AL]
  cases t1:s0.hd.text==[105,110,116] with
  |true=>
   simp only [if_true,run_pure,teA,TE.AS,AB,AE]
   (have c0:=DO h0 [105,110,116] σ b0 t1;have h1:=h0.adv (t:=[105,110,116]) (by decide) t1;have l1:=BW h0.wf;generalize s0.adv=s1 at c0 h1 l1 ⊢;have b1:(σ.AH i (psA L s1)).blk i=some (psA L s1):=by rw [AZ,if_pos rfl])
   (repeat' (first|refine ctQ rfl ?_|((first|refine rgQ mxQ ?_|refine cdQ ?_|refine Run.A2 BT (AK.le_refl _) ?_|(refine AD.upd c0 ?_)|refine AD.det (hpk) ?_)<;>try simp -implicitDefEqProofs only [hk1,hk2,go_sem])|fail))
  |false=>
  have f1:=DN h0 _ σ b0 t1
  cases t2:s0.hd.text==[98,111,111,108] with
  |true=>
   simp only [if_true,if_false,AL,run_pure,teA,TE.AS,AB,AE]
   (have c0:=DO h0 [98,111,111,108] σ b0 t2;have h1:=h0.adv (t:=[98,111,111,108]) (by decide) t2;have l1:=BW h0.wf;generalize s0.adv=s1 at c0 h1 l1 ⊢;have b1:(σ.AH i (psA L s1)).blk i=some (psA L s1):=by rw [AZ,if_pos rfl])
   (repeat' (first|refine ctQ rfl ?_|((first|refine rgQ mxQ ?_|refine cdQ ?_|refine Run.A2 BT (AK.le_refl _) ?_|(refine AD.upd c0 ?_)|refine AD.det (hpk) ?_|refine AD.det (f1) ?_)<;>try simp -implicitDefEqProofs only [hk1,hk2,go_sem])|fail))
  |false=>
  have f2:=DN h0 _ σ b0 t2
  cases t3:s0.hd.text==[117,110,105,116] with
  |true=>
   simp only [if_true,if_false,AL,run_pure,teA,TE.AS,AB,AE]
   (have c0:=DO h0 [117,110,105,116] σ b0 t3;have h1:=h0.adv (t:=[117,110,105,116]) (by decide) t3;have l1:=BW h0.wf;generalize s0.adv=s1 at c0 h1 l1 ⊢;have b1:(σ.AH i (psA L s1)).blk i=some (psA L s1):=by rw [AZ,if_pos rfl])
   (repeat' (first|refine ctQ rfl ?_|((first|refine rgQ mxQ ?_|refine cdQ ?_|refine Run.A2 BT (AK.le_refl _) ?_|(refine AD.upd c0 ?_)|refine AD.det (hpk) ?_|refine AD.det (f1) ?_|refine AD.det (f2) ?_)<;>try simp -implicitDefEqProofs only [hk1,hk2,go_sem])|fail))
  |false=>
  have f3:=DN h0 _ σ b0 t3
  cases t4:s0.hd.text==[97,114,114,97,121] with
  |true=>
   simp only [if_true,if_false,AL]
   (have c0:=DO h0 [97,114,114,97,121] σ b0 t4;have h1:=h0.adv (t:=[97,114,114,97,121]) (by decide) t4;have l1:=BW h0.wf;generalize s0.adv=s1 at c0 h1 l1 ⊢;have b1:(σ.AH i (psA L s1)).blk i=some (psA L s1):=by rw [AZ,if_pos rfl])
   (have c1:=(oR i L n ih 7) (σ.AH i (psA L s1)) s1 g0 h1 (by omega) b1;rw [AN] at c1;have h2:=h1.run (OQ 7 (GK n));have l2:=PM.le (OQ 7 (GK n)) h1.wf;generalize (OQ 7 (GK n)).run s1=y at c1 h2 l2 ⊢;obtain ⟨x1,s2⟩:=y;simp only at c1 h2 l2 ⊢;have b2:(σ.AH i (psA L s2)).blk i=some (psA L s2):=AX;obtain ⟨k0,n0,a0⟩:=x1;simp only [teA,TE.AS,AB,AE] at c1 ⊢)
   (repeat' (first|refine ctQ rfl ?_|((first|refine rgQ mxQ ?_|refine cdQ ?_|refine Run.A2 BT (AK.le_refl _) ?_|(refine AD.upd c0 ?_)|(refine AD.upd c1 ?_)|refine AD.det (hpk) ?_|refine AD.det (f1) ?_|refine AD.det (f2) ?_|refine AD.det (f3) ?_)<;>try simp -implicitDefEqProofs only [hk1,hk2,go_sem])|fail))
  |false=>
  have f4:=DN h0 _ σ b0 t4
  cases t5:s0.hd.text==[114,101,102] with
  |true=>
   simp only [if_true,if_false,AL]
   (have c0:=DO h0 [114,101,102] σ b0 t5;have h1:=h0.adv (t:=[114,101,102]) (by decide) t5;have l1:=BW h0.wf;generalize s0.adv=s1 at c0 h1 l1 ⊢;have b1:(σ.AH i (psA L s1)).blk i=some (psA L s1):=by rw [AZ,if_pos rfl])
   (have c1:=(oR i L n ih 8) (σ.AH i (psA L s1)) s1 g0 h1 (by omega) b1;rw [AN] at c1;have h2:=h1.run (OQ 8 (GK n));have l2:=PM.le (OQ 8 (GK n)) h1.wf;generalize (OQ 8 (GK n)).run s1=y at c1 h2 l2 ⊢;obtain ⟨x1,s2⟩:=y;simp only at c1 h2 l2 ⊢;have b2:(σ.AH i (psA L s2)).blk i=some (psA L s2):=AX;obtain ⟨k0,n0,a0⟩:=x1;simp only [teA,TE.AS,AB,AE] at c1 ⊢)
   (repeat' (first|refine ctQ rfl ?_|((first|refine rgQ mxQ ?_|refine cdQ ?_|refine Run.A2 BT (AK.le_refl _) ?_|(refine AD.upd c0 ?_)|(refine AD.upd c1 ?_)|refine AD.det (hpk) ?_|refine AD.det (f1) ?_|refine AD.det (f2) ?_|refine AD.det (f3) ?_|refine AD.det (f4) ?_)<;>try simp -implicitDefEqProofs only [hk1,hk2,go_sem])|fail))
  |false=>
  have f5:=DN h0 _ σ b0 t5
  cases t6:s0.hd.text==[40] with
  |true=>
   simp only [if_true,if_false,AL,run_bind,run_pure,teA,TE.AS,AB,AE]
   (have c0:=DO h0 [40] σ b0 t6;have h1:=h0.adv (t:=[40]) (by decide) t6;have l1:=BW h0.wf;generalize s0.adv=s1 at c0 h1 l1 ⊢;have b1:(σ.AH i (psA L s1)).blk i=some (psA L s1):=by rw [AZ,if_pos rfl])
   (have c1:=ih (σ.AH i (psA L s1)) s1 g0 h1 (by omega) b1;rw [AN] at c1;have h2:=h1.run (GK n);have l2:=PM.le (GK n) h1.wf;generalize (GK n).run s1=y at c1 h2 l2 ⊢;obtain ⟨x1,s2⟩:=y;simp only at c1 h2 l2 ⊢;have b2:(σ.AH i (psA L s2)).blk i=some (psA L s2):=AX;obtain ⟨k0,n0,a0⟩:=x1;simp only [teA,TE.AS,AB,AE] at c1 ⊢)
   (have c2:=(DP i L n [44] (by decide)) (σ.AH i (psA L s2)) s2 g0 h2 (by omega) b2;rw [AN] at c2;have h3:=h2.run (PM.exp [44] (by decide));have l3:=PM.le (PM.exp [44] (by decide)) h2.wf;generalize (PM.exp [44] (by decide)).run s2=y at c2 h3 l3 ⊢;obtain ⟨x2,s3⟩:=y;simp only at c2 h3 l3 ⊢;have b3:(σ.AH i (psA L s3)).blk i=some (psA L s3):=AX)
   (have d3:=fun tk:Nat=>(Ek i L n Zh ih).pc ((σ.AH i (psA L s3)).CO tk) s3 g0 h3 (by omega) (by rw [Ep];exact b3);have c3:=(Ek i L n Zh ih).pc (σ.AH i (psA L s3)) s3 g0 h3 (by omega) b3;rw [AN] at c3;have h4:=h3.run (listed (GK n));have l4:=PM.le (listed (GK n)) h3.wf;have n3:=Q1 (read:=GK n) h3.wf;generalize (listed (GK n)).run s3=y at c3 d3 h4 l4 n3 ⊢;obtain ⟨x3,s4⟩:=y;simp only at c3 d3 h4 l4 n3 ⊢;have q3:=h0.suf.length_le;have q3':=h0.len)
   (repeat' (first|refine ctQ rfl ?_|((first|refine rgQ mxQ ?_|refine cdQ ?_|(refine AD.upd c0 ?_)|(refine AD.upd c1 ?_)|(refine AD.upd c2 ?_)|refine AD.det (hpk) ?_|refine AD.det (f1) ?_|refine AD.det (f2) ?_|refine AD.det (f3) ?_|refine AD.det (f4) ?_|refine AD.det (f5) ?_)<;>try simp -implicitDefEqProofs only [hk1,hk2,go_sem])|fail))
   refine Run.Q8 mixed ?_;simp -implicitDefEqProofs only [go_sem]
   refine ⟨?_,?_⟩
   · refine Fh.own rfl (by decide) (fun tk htk=>?_);simp -implicitDefEqProofs only [go_sem]
     refine AD.upd (d3 tk) ?_;simp -implicitDefEqProofs only [go_sem]
     (apply LS.tok (LS.vL htk s4);rfl;exact (Ji _ _ TE.vH);(simp only [AJ,AG,AI];omega);decide;intro v2 τ2 ho);simp -implicitDefEqProofs only [ho.own.cells,ho.own.cell,if_true,go_sem]
     (repeat' (first|refine ctQ rfl ?_|((first|refine rgQ mxQ ?_|refine cdQ ?_|(refine Run.A2 BT ho.le ?_))<;>try simp -implicitDefEqProofs only [ho.own.plain,if_true,go_sem])|fail))
   · refine AD.upd c3 ?_;simp -implicitDefEqProofs only [go_sem]
     refine Fh.own rfl (by decide) (fun tk htk=>?_);simp -implicitDefEqProofs only [go_sem]
     (apply LS.tok (LS.dF htk);rfl;exact (Ji _ _ TE.vH);(simp only [AJ,AG,AI];omega);decide;intro v2 τ2 ho);simp -implicitDefEqProofs only [ho.own.cells,ho.own.cell,if_true,go_sem]
     (repeat' (first|refine ctQ rfl ?_|((first|refine rgQ mxQ ?_|refine cdQ ?_|(refine Run.A2 BT ho.le ?_))<;>try simp -implicitDefEqProofs only [ho.own.plain,if_true,go_sem])|fail))
  |false=>
  have f6:=DN h0 _ σ b0 t6
  cases t7:s0.hd.text==[102,110] with
  |true=>
   simp only [if_true,if_false,AL,run_bind,run_pure,teA,TE.AS,AB,AE]
   (have c0:=DO h0 [102,110] σ b0 t7;have h1:=h0.adv (t:=[102,110]) (by decide) t7;have l1:=BW h0.wf;generalize s0.adv=s1 at c0 h1 l1 ⊢;have b1:(σ.AH i (psA L s1)).blk i=some (psA L s1):=by rw [AZ,if_pos rfl])
   (have c1:=(DP i L n [40] (by decide)) (σ.AH i (psA L s1)) s1 g0 h1 (by omega) b1;rw [AN] at c1;have h2:=h1.run (PM.exp [40] (by decide));have l2:=PM.le (PM.exp [40] (by decide)) h1.wf;generalize (PM.exp [40] (by decide)).run s1=y at c1 h2 l2 ⊢;obtain ⟨x1,s2⟩:=y;simp only at c1 h2 l2 ⊢;have b2:(σ.AH i (psA L s2)).blk i=some (psA L s2):=AX)
   have c2:=QG i L n Zh ih (σ.AH i (psA L s2)) s2 g0 h2 (by omega) b2
   rw [AN] at c2
   have h3:=h2.run (closed (GK n))
   have l3:=PM.le (closed (GK n)) h2.wf
   have n2:=Ut (read:=GK n) h2.wf
   have q2:=h0.suf.length_le
   have q3:=h0.len
   generalize (closed (GK n)).run s2=y at c2 h3 l3 n2 ⊢
   obtain ⟨x2,s3⟩:=y
   simp only at c2 h3 l3 n2 ⊢
   (repeat' (first|refine ctQ rfl ?_|((first|refine rgQ mxQ ?_|refine cdQ ?_|(refine AD.upd c0 ?_)|(refine AD.upd c1 ?_)|(refine AD.mk rfl c2 ?_;intro v1 τ1 ho1)|refine AD.det (hpk) ?_|refine AD.det (f1) ?_|refine AD.det (f2) ?_|refine AD.det (f3) ?_|refine AD.det (f4) ?_|refine AD.det (f5) ?_|refine AD.det (f6) ?_)<;>try simp -implicitDefEqProofs only [hk1,hk2,go_sem])|fail))
   have hl1:=LS.of ho1
   have e3:=Uu h3 [45,62] (by decide) τ1 hl1.blk
   have hl2:=hl1.step ((PM.exp [45,62] (by decide)).run s3).2
   have h4:=h3.run (PM.exp [45,62] (by decide))
   have l4:=PM.le (PM.exp [45,62] (by decide)) h3.wf
   generalize (PM.exp [45,62] (by decide)).run s3=y at e3 hl2 h4 l4 ⊢
   obtain ⟨x3,s4⟩:=y
   simp only at e3 hl2 h4 l4 ⊢
   have c4:=ih (τ1.AH i (psA L s4)) s4 (hl1.gt g0) h4 (by omega) hl2.blk
   rw [AN] at c4
   have hl3:=hl1.step ((GK n).run s4).2
   generalize (GK n).run s4=y at c4 hl3 ⊢
   obtain ⟨x4,s5⟩:=y
   obtain ⟨k0,n0,a0⟩:=x4
   simp only [teA,TE.AS,AB,AE] at c4 hl3 ⊢
   (repeat' (first|refine ctQ rfl ?_|((first|refine rgQ mxQ ?_|refine cdQ ?_|(refine AD.upd e3 ?_)|(refine AD.upd c4 ?_))<;>try simp -implicitDefEqProofs only [go_sem])|fail))
   refine hl3.tok rfl (by simp) (by simp;omega) (by decide) (fun v2 τ2 ho=>?_);simp -implicitDefEqProofs only [ho.own.cells,ho.own.cell,if_true,go_sem]
   (repeat' (first|refine ctQ rfl ?_|((first|refine rgQ mxQ ?_|refine cdQ ?_|(refine Run.A2 BT ho.le ?_))<;>try simp -implicitDefEqProofs only [ho.own.plain,if_true,Ax,AB,AE,TE.AS,go_sem])|fail))
  |false=>
  have f7:=DN h0 _ σ b0 t7
  simp only [if_false,AL,w8,teA,TE.AS,AB,AE]
  (repeat' (first|refine ctQ rfl ?_|((first|refine rgQ mxQ ?_|refine cdQ ?_|refine Run.A2 BT (AK.le_refl _) ?_|(refine AD.upd (Vj h0 σ b0) ?_)|refine AD.det (hpk) ?_|refine AD.det (f1) ?_|refine AD.det (f2) ?_|refine AD.det (f3) ?_|refine AD.det (f4) ?_|refine AD.det (f5) ?_|refine AD.det (f6) ?_|refine AD.det (f7) ?_)<;>try simp -implicitDefEqProofs only [hk1,hk2,go_sem])|fail))
end Go.Ab
namespace Go.Ab
open Go.Proofs
variable {args:List AV} {σ:AK} {K:AV→AK→Prop}
def UU:C:=(.seq (.seq (.reg [Qm 25 8,
 Qo 26 (.nck (.t 25)),
 Qd 27 26 2,
 Qo 28 (.ld (.t 27) none),
 Qo 29 (.un .not (.t 28)),
 Qm 30 29,
 ⟨some 31,.mv (.t 8),some (30,true)⟩,
 ⟨some 32,.nck (.t 31),some (30,true)⟩,
 ⟨some 33,.fld (.t 32) 0,some (30,true)⟩,
 ⟨some 34,.ld (.t 33) none,some (30,true)⟩,
 ⟨some 35,.mv (.t 8),some (30,true)⟩,
 ⟨some 36,.nck (.t 35),some (30,true)⟩,
 ⟨some 37,.fld (.t 36) 1,some (30,true)⟩,
 ⟨some 38,.ld (.t 37) none,some (30,true)⟩,
 ⟨some 39,.ix (.t 34) (.t 38) 3,some (30,true)⟩,
 ⟨some 40,.fld (.t 39) 0,some (30,true)⟩,
 ⟨some 41,.ld (.t 40) none,some (30,true)⟩,
 ⟨some 42,.bin .neq (.t 41) (.c (.d (.int .i64 6))),some (30,true)⟩,
 Qa 43 30 42] [2,8,9,43])
 (.cond (.t 43) .skip
 (.exit 0)))
 (.block 1 (.seq (.reg [Qm 44 8,
 Qs 45 30 44 [100,97,116,97]] [2,8,9,45])
 (.cond (.t 45) (.reg [Qd 46 9 0,
 Ql 47 46,
 Qm 48 8,
 Qc 49 31 48,
 Qo 50 (.bsl 3 1 [(.d (.str [])),.AO,.AO] [(0,3,(.t 49))]),
 Qo 51 (.app 61 3 64 (.t 47) (.t 50)),
 Qd 52 9 0,
 Qz 52 51 1] [2,8,9])
 (.seq (.reg [Qm 53 8,
 Qs 54 32 53 [102,117,110]] [2,8,9])
 (.seq (.reg [Qm 55 8,
 Qo 56 (.call 33 [(.t 55),(.c (.d (.int .i64 1)))]),
 Qo 57 (.bld [(.d (.str [])),.AO,(.d (.int .i64 0)),(.d (.str [])),(.d (.int .i64 0)),.AO,.AO,.AO] [(0,1,(.t 56))]),
 Qo 10 (.al [(.d (.str [])),.AO,(.d (.int .i64 0)),(.d (.str [])),(.d (.int .i64 0)),.AO,.AO,.AO] false),
 Qz 10 57 8] [2,8,9,10])
 (.seq (.reg [Qm 58 8,
 Qc 59 34 58,
 Qd 60 10 1,
 Qz 60 59 1] [2,8,9,10])
 (.seq (.reg [Qm 61 8,
 Qs 62 32 61 [61]] [2,8,9,10])
 (.seq (.reg [Qm 63 8,
 Qc 64 35 63,
 Qd 65 10 2,
 Qz 65 64 6] [2,8,9,10])
 (.seq (.reg [Qm 66 8,
 Qs 67 32 66 [59]] [2,8,9,10])
 (.reg [Qd 68 9 1,
 Ql 69 68,
 Qo 70 (.ldl (.t 10) (some 8)),
 Qo 71 (.bsl 8 1 [(.d (.str [])),.AO,(.d (.int .i64 0)),(.d (.str [])),(.d (.int .i64 0)),.AO,.AO,.AO] [(0,8,(.t 70))]),
 Qo 72 (.app 66 8 144 (.t 69) (.t 71)),
 Qd 73 9 1,
 Qz 73 72 1] [2,8,9])))))))))))
def lC:C:=(.seq (.reg [Qo 2 (.al [.AO,.AO] false),
 Qi 3 0,
 Qi 4 0] [0,2])
 (.seq (.reg [Qm 12 0,
 Qc 13 29 12,
 Qm 11 13,
 Qo 14 (.ext (.t 11) 0),
 Qo 15 (.ext (.t 11) 1),
 Qo 16 (.ext (.t 11) 2),
 Qm 5 14,
 Qm 6 15,
 Qm 7 16] [2,5,6,7])
 (.seq (.seq (.reg [Qm 17 7,
 Qo 18 (.bin .neq (.t 17) (.c (.d (.int .i64 0))))] [2,5,6,7,18])
 (.cond (.t 18) (.seq (.reg [Qo 19 (.bld [.AO,.AO] []),
 Qm 20 6,
 Qm 21 7,
 Qz 2 19 2,
 Qm 3 20,
 Qm 4 21] [2,3,4])
 .ret)
 .skip))
 (.seq (.reg [Qm 22 5,
 Qo 23 (.bld [.AO,(.d (.int .i64 0)),(.d (.bool false))] [(0,1,(.t 22))]),
 Qo 24 (.box (.t 23) true),
 Qm 8 24] [2,8])
 (.seq (.reg [Qo 9 (.al [.AO,.AO] false)] [2,8,9])
 (.seq (.block 0 (.loop UU))
 (.seq (.seq (.reg [Qm 74 8,
 Qo 75 (.nck (.t 74)),
 Qd 76 75 2,
 Qo 77 (.ld (.t 76) none)] [2,8,9,77])
 (.cond (.t 77) (.seq (.Q8 (.one (Qo 78 (.bld [.AO,.AO] []))
 (.one (Qm 79 8)
 (.one (Qo 80 (.nck (.t 79)))
 (.one (Qd 81 80 0)
 (.one (Qm 83 8)
 (.one (Qo 84 (.nck (.t 83)))
 (.one (Qd 85 84 1)
 (.alt (Qo 82 (.ld (.t 81) none))
 (.alt (Qo 86 (.ld (.t 85) none))
 (.one (Qo 87 (.ix (.t 82) (.t 86) 3))
 (.one (Qd 88 87 2)
 (.alt (Qo 89 (.ld (.t 88) none))
 (.one (Qz 2 78 2)
 (.one (Qm 3 89)
 (.one (Qi 4 2)
 .done)))
 (.alt (Qz 2 78 2)
 (.one (Qo 89 (.ld (.t 88) none))
 (.one (Qm 3 89)
 (.one (Qi 4 2)
 .done)))
 .done))))
 (.alt (Qz 2 78 2)
 (.one (Qo 86 (.ld (.t 85) none))
 (.one (Qo 87 (.ix (.t 82) (.t 86) 3))
 (.one (Qd 88 87 2)
 (.one (Qo 89 (.ld (.t 88) none))
 (.one (Qm 3 89)
 (.one (Qi 4 2)
 .done))))))
 .done))
 (.alt (Qo 86 (.ld (.t 85) none))
 (.alt (Qo 82 (.ld (.t 81) none))
 (.one (Qo 87 (.ix (.t 82) (.t 86) 3))
 (.one (Qd 88 87 2)
 (.alt (Qo 89 (.ld (.t 88) none))
 (.one (Qz 2 78 2)
 (.one (Qm 3 89)
 (.one (Qi 4 2)
 .done)))
 (.alt (Qz 2 78 2)
 (.one (Qo 89 (.ld (.t 88) none))
 (.one (Qm 3 89)
 (.one (Qi 4 2)
 .done)))
 .done))))
 (.alt (Qz 2 78 2)
 (.one (Qo 82 (.ld (.t 81) none))
 (.one (Qo 87 (.ix (.t 82) (.t 86) 3))
 (.one (Qd 88 87 2)
 (.one (Qo 89 (.ld (.t 88) none))
 (.one (Qm 3 89)
 (.one (Qi 4 2)
 .done))))))
 .done))
 (.alt (Qz 2 78 2)
 (.one (Qo 82 (.ld (.t 81) none))
 (.one (Qo 86 (.ld (.t 85) none))
 (.one (Qo 87 (.ix (.t 82) (.t 86) 3))
 (.one (Qd 88 87 2)
 (.one (Qo 89 (.ld (.t 88) none))
 (.one (Qm 3 89)
 (.one (Qi 4 2)
 .done)))))))
 .done)))))))))) [2,3,4])
 .ret)
 .skip))
 (.seq (.seq (.reg [Qo 90 (.ldl (.t 9) (some 2)),
 Qc 91 20 90,
 Qo 92 (.un .not (.t 91))] [2,9,92])
 (.cond (.t 92) (.seq (.reg [Qo 93 (.bld [.AO,.AO] []),
 Qz 2 93 2,
 Qi 3 0,
 Qi 4 9] [2,3,4])
 .ret)
 .skip))
 (.seq (.reg [Qo 94 (.ldl (.t 9) (some 2)),
 Qz 2 94 2,
 Qi 3 0,
 Qi 4 0] [2,3,4])
 .ret)))))))))
def nZ:List (List Nat×PT):=[([0,2],.done),([2,5,6,7],.done),([2,5,6,7,18],.done),([2,3,4],.done),([2,8],.done),([2,8,9],.done),([2,8,9,43],.done),([2,8,9,45],.done),([2,8,9],.done),([2,8,9],.done),([2,8,9,10],.done),([2,8,9,10],.done),([2,8,9,10],.done),([2,8,9,10],.done),([2,8,9,10],.done),([2,8,9],.done),([2,8,9,77],.done),([2,3,4],(.one 0 (.one 1 (.one 2 (.one 3 (.one 5 (.one 6 (.one 7 (.alt 4 (.alt 8 (.one 9 (.one 10 (.alt 11 (.one 12 (.one 13 (.one 14 .done))) (.alt 12 (.one 11 (.one 13 (.one 14 .done))) .done)))) (.alt 12 (.one 8 (.one 9 (.one 10 (.one 11 (.one 13 (.one 14 .done)))))) .done)) (.alt 8 (.alt 4 (.one 9 (.one 10 (.alt 11 (.one 12 (.one 13 (.one 14 .done))) (.alt 12 (.one 11 (.one 13 (.one 14 .done))) .done)))) (.alt 12 (.one 4 (.one 9 (.one 10 (.one 11 (.one 13 (.one 14 .done)))))) .done)) (.alt 12 (.one 4 (.one 8 (.one 9 (.one 10 (.one 11 (.one 13 (.one 14 .done))))))) .done))))))))))),([2,9,92],.done),([2,3,4],.done),([2,3,4],.done)]
noncomputable def G5:Cx:=⟨Tryz.prog,13,Tryz.f13,95,[24,300047,300069,300070,300090,300094],[],[.c 2 (some 2),.t 3,.t 4]⟩
theorem NP:Good G5:=⟨Tryz.func13,by kernel_rfl⟩
theorem j4:G5.rs=[.c 2 (some 2),.t 3,.t 4]:=rfl
theorem lY (hl:args.length≤95) (h:Run G5 K [.code lC] (Ak args) E σ):AP Tryz.prog 13 args σ K:=
 AT (cx:=G5) (code:=Tryz.f13.body.getD .skip) NP (by kernel_rfl) Tryz.ntmps13 hl (AW G5 _ nZ _ [] (by kernel_rfl)) h
def Ou:C:=(.seq (.reg [Qb 4 false] [0,1])
 (.seq (.seq (.reg [Qm 5 0,
 Qm 6 1,
 Qk 7 75 5 6] [0,7])
 (.cond (.t 7) (.seq (.reg [Qm 8 0,
 Qo 9 (.nck (.t 8)),
 Qd 10 9 1,
 Qo 11 (.ld (.t 10) none),
 Qp 12 11 1,
 Qo 13 (.nck (.t 8)),
 Qd 14 13 1,
 Qz 14 12 1] [])
 (.seq (.reg [Qb 4 true] [4])
 .ret))
 .skip))
 (.seq (.reg [Qb 4 false] [4])
 .ret)))
noncomputable def GB:Cx:=⟨Tryz.prog,30,Tryz.f30,15,[],[],[.t 4]⟩
theorem Kb:Good GB:=⟨Tryz.func30,by kernel_rfl⟩
theorem WT:GB.rs=[.t 4]:=rfl
theorem PJ (hl:args.length≤15) (h:Run GB K [.code Ou] (Ak args) E σ):AP Tryz.prog 30 args σ K:=
 AT (cx:=GB) (code:=Tryz.f30.body.getD .skip) Kb (by kernel_rfl) Tryz.ntmps30 hl (AW GB _ (Aw Ou) _ [] (by kernel_rfl)) h
def Ti:C:=(.seq (.seq (.reg [Qm 17 0,
 Qs 18 30 17 [44]] [0,2,3,18])
 (.cond (.t 18) .skip
 (.exit 0)))
 (.block 1 (.reg [Qd 19 3 1,
 Ql 20 19,
 Qm 21 0,
 Qo 22 (.call 33 [(.t 21),(.c (.d (.int .i64 1)))]),
 Qo 23 (.bsl 1 1 [(.d (.str []))] [(0,1,(.t 22))]),
 Qo 24 (.app 9 1 16 (.t 20) (.t 23)),
 Qd 25 3 1,
 Qz 25 24 1] [0,2,3])))
def MS:C:=(.block 3 (.seq (.reg [Qm 30 0,
 Qo 31 (.call 33 [(.t 30),(.c (.d (.int .i64 2)))]),
 Qo 32 (.bld [(.d (.str [])),.AO] [(0,1,(.t 31))]),
 Qo 4 (.al [(.d (.str [])),.AO] false),
 Qz 4 32 2] [0,2,3,4])
 (.seq (.seq (.reg [Qm 33 0,
 Qs 34 30 33 [40]] [0,2,3,4,34])
 (.cond (.t 34) (.seq (.reg [Qm 35 0,
 Qc 36 76 35,
 Qd 37 4 1,
 Qz 37 36 1] [0,2,3,4])
 (.reg [Qm 38 0,
 Qs 39 32 38 [41]] [0,2,3,4]))
 .skip))
 (.seq (.reg [Qd 40 3 2,
 Ql 41 40,
 Qo 42 (.ldl (.t 4) (some 2)),
 Qo 43 (.bsl 2 1 [(.d (.str [])),.AO] [(0,2,(.t 42))]),
 Qo 44 (.app 72 2 40 (.t 41) (.t 43)),
 Qd 45 3 2,
 Qz 45 44 1] [0,2,3])
 (.seq (.reg [Qm 46 0,
 Qs 47 30 46 [124],
 Qo 48 (.un .not (.t 47))] [0,2,3,48])
 (.cond (.t 48) (.exit 2)
 .skip))))))
def On:C:=(.seq (.reg [Qo 2 (.al [(.d (.str [])),.AO,.AO] false)] [0,2])
 (.seq (.reg [Qm 5 0,
 Qo 6 (.call 33 [(.t 5),(.c (.d (.int .i64 2)))]),
 Qo 7 (.bld [(.d (.str [])),.AO,.AO] [(0,1,(.t 6))]),
 Qo 3 (.al [(.d (.str [])),.AO,.AO] false),
 Qz 3 7 3] [0,2,3])
 (.seq (.seq (.reg [Qm 8 0,
 Qs 9 30 8 [40]] [0,2,3,9])
 (.cond (.t 9) (.seq (.reg [Qd 10 3 1,
 Ql 11 10,
 Qm 12 0,
 Qo 13 (.call 33 [(.t 12),(.c (.d (.int .i64 1)))]),
 Qo 14 (.bsl 1 1 [(.d (.str []))] [(0,1,(.t 13))]),
 Qo 15 (.app 9 1 16 (.t 11) (.t 14)),
 Qd 16 3 1,
 Qz 16 15 1] [0,2,3])
 (.seq (.block 0 (.loop Ti))
 (.reg [Qm 26 0,
 Qs 27 32 26 [41]] [0,2,3])))
 .skip))
 (.seq (.reg [Qm 28 0,
 Qs 29 32 28 [61]] [0,2,3])
 (.seq (.block 2 (.loop MS))
 (.seq (.reg [Qm 49 0,
 Qs 50 32 49 [59]] [2,3])
 (.seq (.reg [Qo 51 (.ldl (.t 3) (some 3)),
 Qz 2 51 3] [2])
 .ret)))))))
noncomputable def Dz:Cx:=⟨Tryz.prog,31,Tryz.f31,52,[300011,300020,300041,300042,300051],[],[.c 2 (some 3)]⟩
theorem K9:Good Dz:=⟨Tryz.func31,by kernel_rfl⟩
theorem WN:Dz.rs=[.c 2 (some 3)]:=rfl
theorem Wo (hl:args.length≤52) (h:Run Dz K [.code On] (Ak args) E σ):AP Tryz.prog 31 args σ K:=
 AT (cx:=Dz) (code:=Tryz.f31.body.getD .skip) K9 (by kernel_rfl) Tryz.ntmps31 hl (AW Dz _ (Aw On) _ [] (by kernel_rfl)) h
def Oq:C:=(.seq (.reg [Qm 4 0,
 Qm 5 1,
 Qk 6 30 4 5,
 Qo 7 (.un .not (.t 6))] [0,7])
 (.cond (.t 7) (.reg [Qm 8 0,
 Qo 9 (.nck (.t 8)),
 Qd 10 9 2,
 ⟨none,.st (.t 10) (.c (.d (.bool true))) 1,none⟩] [])
 .skip))
noncomputable def Fy:Cx:=⟨Tryz.prog,32,Tryz.f32,11,[],[],[]⟩
theorem Ka:Good Fy:=⟨Tryz.func32,by kernel_rfl⟩
theorem WQ:Fy.rs=[]:=rfl
theorem Wq (hl:args.length≤11) (h:Run Fy K [.code Oq] (Ak args) E σ):AP Tryz.prog 32 args σ K:=
 AT (cx:=Fy) (code:=Tryz.f32.body.getD .skip) Ka (by kernel_rfl) Tryz.ntmps32 hl (AW Fy _ (Aw Oq) _ [] (by kernel_rfl)) h
def Ov:C:=(.seq (.reg [Qo 4 (.mv (.c (.d (.str []))))] [0,1])
 (.seq (.seq (.reg [Qm 5 0,
 Qo 6 (.nck (.t 5)),
 Qd 7 6 2,
 Qo 8 (.ld (.t 7) none),
 Qm 9 8,
 ⟨some 10,.mv (.t 0),some (9,false)⟩,
 ⟨some 11,.nck (.t 10),some (9,false)⟩,
 ⟨some 12,.fld (.t 11) 0,some (9,false)⟩,
 ⟨some 13,.ld (.t 12) none,some (9,false)⟩,
 ⟨some 14,.mv (.t 0),some (9,false)⟩,
 ⟨some 15,.nck (.t 14),some (9,false)⟩,
 ⟨some 16,.fld (.t 15) 1,some (9,false)⟩,
 ⟨some 17,.ld (.t 16) none,some (9,false)⟩,
 ⟨some 18,.ix (.t 13) (.t 17) 3,some (9,false)⟩,
 ⟨some 19,.fld (.t 18) 0,some (9,false)⟩,
 ⟨some 20,.ld (.t 19) none,some (9,false)⟩,
 ⟨some 21,.mv (.t 1),some (9,false)⟩,
 ⟨some 22,.bin .neq (.t 20) (.t 21),some (9,false)⟩,
 Qr 23 9 22] [0,23])
 (.cond (.t 23) (.seq (.reg [Qm 24 0,
 Qo 25 (.nck (.t 24)),
 Qd 26 25 2,
 ⟨none,.st (.t 26) (.c (.d (.bool true))) 1,none⟩] [])
 (.seq (.reg [Qo 4 (.mv (.c (.d (.str []))))] [4])
 .ret))
 .skip))
 (.seq (.reg [Qm 27 0,
 Qo 28 (.nck (.t 27)),
 Qd 29 28 1,
 Qo 30 (.ld (.t 29) none),
 Qp 31 30 1,
 Qo 32 (.nck (.t 27)),
 Qd 33 32 1,
 Qz 33 31 1] [0])
 (.seq (.reg [Qm 34 0,
 Qo 35 (.nck (.t 34)),
 Qd 36 35 0,
 Qo 37 (.ld (.t 36) none),
 Qm 38 0,
 Qo 39 (.nck (.t 38)),
 Qd 40 39 1,
 Qo 41 (.ld (.t 40) none),
 Qo 42 (.bin .sub (.t 41) (.c (.d (.int .i64 1)))),
 Qo 43 (.ix (.t 37) (.t 42) 3),
 Qd 44 43 1,
 Qo 45 (.ld (.t 44) none),
 Qm 4 45] [4])
 .ret))))
noncomputable def GC:Cx:=⟨Tryz.prog,33,Tryz.f33,46,[],[],[.t 4]⟩
theorem Hk:Good GC:=⟨Tryz.func33,by kernel_rfl⟩
theorem WU:GC.rs=[.t 4]:=rfl
theorem Wt (hl:args.length≤46) (h:Run GC K [.code Ov] (Ak args) E σ):AP Tryz.prog 33 args σ K:=
 AT (cx:=GC) (code:=Tryz.f33.body.getD .skip) Hk (by kernel_rfl) Tryz.ntmps33 hl (AW GC _ (Aw Ov) _ [] (by kernel_rfl)) h
def SW:C:=(.seq (.seq (.reg [Qm 14 0,
 Qs 15 30 14 [44]] [0,3,15])
 (.cond (.t 15) .skip
 (.exit 0)))
 (.block 1 (.reg [Qm 16 3,
 Qm 17 0,
 Qo 18 (.call 33 [(.t 17),(.c (.d (.int .i64 1)))]),
 Qo 19 (.bsl 1 1 [(.d (.str []))] [(0,1,(.t 18))]),
 Qo 20 (.app 9 1 16 (.t 16) (.t 19)),
 Qm 3 20] [0,3])))
def OH:C:=(.seq (.reg [Qo 2 (.mv (.c .AO))] [0])
 (.seq (.reg [Qm 4 0,
 Qs 5 32 4 [40]] [0])
 (.seq (.reg [Qo 3 (.mv (.c .AO))] [0,3])
 (.seq (.seq (.reg [Qm 6 0,
 Qs 7 30 6 [41]] [0,3,7])
 (.cond (.t 7) (.seq (.reg [Qm 8 3,
 Qm 2 8] [2])
 .ret)
 .skip))
 (.seq (.reg [Qm 9 3,
 Qm 10 0,
 Qo 11 (.call 33 [(.t 10),(.c (.d (.int .i64 1)))]),
 Qo 12 (.bsl 1 1 [(.d (.str []))] [(0,1,(.t 11))]),
 Qo 13 (.app 9 1 16 (.t 9) (.t 12)),
 Qm 3 13] [0,3])
 (.seq (.block 0 (.loop SW))
 (.seq (.reg [Qm 21 0,
 Qs 22 32 21 [41]] [3])
 (.seq (.reg [Qm 23 3,
 Qm 2 23] [2])
 .ret))))))))
noncomputable def FY:Cx:=⟨Tryz.prog,34,Tryz.f34,24,[],[],[.t 2]⟩
theorem JZ:Good FY:=⟨Tryz.func34,by kernel_rfl⟩
theorem VO:FY.rs=[.t 2]:=rfl
theorem Vo (hl:args.length≤24) (h:Run FY K [.code OH] (Ak args) E σ):AP Tryz.prog 34 args σ K:=
 AT (cx:=FY) (code:=Tryz.f34.body.getD .skip) JZ (by kernel_rfl) Tryz.ntmps34 hl (AW FY _ (Aw OH) _ [] (by kernel_rfl)) h
def Tj:C:=(.seq (.seq (.reg [Qm 38 0,
 Qs 39 30 38 [44]] [0,2,3,39])
 (.cond (.t 39) .skip
 (.exit 1)))
 (.block 2 (.reg [Qm 40 3,
 Qm 41 0,
 Qc 42 77 41,
 Qo 43 (.bsl 1 1 [(.d (.str []))] [(0,1,(.t 42))]),
 Qo 44 (.app 9 1 16 (.t 40) (.t 43)),
 Qm 3 44] [0,2,3])))
def Tk:C:=(.seq (.seq (.reg [Qm 111 0,
 Qs 112 30 111 [44]] [0,2,9,10,112])
 (.cond (.t 112) .skip
 (.exit 5)))
 (.block 6 (.reg [Qd 113 10 1,
 Ql 114 113,
 Qm 115 0,
 Qc 116 77 115,
 Qo 117 (.bsl 1 1 [(.d (.str []))] [(0,1,(.t 116))]),
 Qo 118 (.app 9 1 16 (.t 114) (.t 117)),
 Qd 119 10 1,
 Qz 119 118 1] [0,2,9,10])))
def MT:C:=(.block 4 (.seq (.reg [Qm 99 0,
 Qo 100 (.call 33 [(.t 99),(.c (.d (.int .i64 2)))]),
 Qo 101 (.bld [(.d (.str [])),.AO,(.d (.int .i64 0)),(.d (.str [])),(.d (.int .i64 0)),.AO,.AO,.AO] [(0,1,(.t 100))]),
 Qo 10 (.al [(.d (.str [])),.AO,(.d (.int .i64 0)),(.d (.str [])),(.d (.int .i64 0)),.AO,.AO,.AO] false),
 Qz 10 101 8] [0,2,9,10])
 (.seq (.seq (.reg [Qm 102 0,
 Qs 103 30 102 [40]] [0,2,9,10,103])
 (.cond (.t 103) (.seq (.reg [Qd 104 10 1,
 Ql 105 104,
 Qm 106 0,
 Qc 107 77 106,
 Qo 108 (.bsl 1 1 [(.d (.str []))] [(0,1,(.t 107))]),
 Qo 109 (.app 9 1 16 (.t 105) (.t 108)),
 Qd 110 10 1,
 Qz 110 109 1] [0,2,9,10])
 (.seq (.block 5 (.loop Tk))
 (.reg [Qm 120 0,
 Qs 121 32 120 [41]] [0,2,9,10])))
 .skip))
 (.seq (.reg [Qm 122 0,
 Qs 123 32 122 [45,62]] [0,2,9,10])
 (.seq (.reg [Qm 124 0,
 Qc 125 35 124,
 Qd 126 10 2,
 Qz 126 125 6] [0,2,9,10])
 (.seq (.reg [Qd 127 9 5,
 Ql 128 127,
 Qo 129 (.ldl (.t 10) (some 8)),
 Qo 130 (.bsl 8 1 [(.d (.str [])),.AO,(.d (.int .i64 0)),(.d (.str [])),(.d (.int .i64 0)),.AO,.AO,.AO] [(0,8,(.t 129))]),
 Qo 131 (.app 112 8 144 (.t 128) (.t 130)),
 Qd 132 9 5,
 Qz 132 131 1] [0,2,9])
 (.seq (.reg [Qm 133 0,
 Qs 134 30 133 [124],
 Qo 135 (.un .not (.t 134))] [0,2,9,135])
 (.cond (.t 135) (.exit 3)
 .skip))))))))
def Oo:C:=(.seq (.reg [Qo 2 (.al [(.d (.int .i64 0)),(.d (.str [])),(.d (.int .i64 0)),.AO,.AO,.AO] false)] [0,2])
 (.seq (.block 0 (.seq (.reg [Qm 18 0,
 Qo 19 (.nck (.t 18)),
 Qd 20 19 2,
 Qo 21 (.ld (.t 20) none),
 Qm 17 21] [0,2,17])
 (.cond (.t 17) (.seq (.reg [Qo 22 (.bld [(.d (.int .i64 0)),(.d (.str [])),(.d (.int .i64 0)),.AO,.AO,.AO] []),
 Qz 2 22 6] [2])
 .ret)
 (.seq (.reg [Qm 24 0,
 Qs 25 30 24 [108,101,116],
 Qm 23 25] [0,2,23])
 (.cond (.t 23) (.seq (.seq (.reg [Qm 26 0,
 Qs 27 30 26 [40]] [0,2,27])
 (.cond (.t 27) (.seq (.reg [Qm 28 0,
 Qc 29 77 28,
 Qo 30 (.Jr 9 1 1 [(.d (.str []))] [(0,1,(.t 29))]),
 Qm 3 30] [0,2,3])
 (.seq (.reg [Qm 31 0,
 Qs 32 32 31 [44]] [0,2,3])
 (.seq (.reg [Qm 33 3,
 Qm 34 0,
 Qc 35 77 34,
 Qo 36 (.bsl 1 1 [(.d (.str []))] [(0,1,(.t 35))]),
 Qo 37 (.app 9 1 16 (.t 33) (.t 36)),
 Qm 3 37] [0,2,3])
 (.seq (.block 1 (.loop Tj))
 (.seq (.reg [Qm 45 0,
 Qs 46 32 45 [41]] [0,2,3])
 (.seq (.reg [Qm 47 0,
 Qs 48 32 47 [61]] [0,2,3])
 (.seq (.reg [Qm 49 0,
 Qc 50 35 49,
 Qo 4 (.al [(.d (.int .i64 0)),(.d (.str [])),(.d (.int .i64 0)),.AO,.AO,.AO] false),
 Qz 4 50 6] [0,2,3,4])
 (.seq (.reg [Qm 51 0,
 Qs 52 32 51 [105,110]] [0,2,3,4])
 (.seq (.reg [Qm 53 3,
 Qo 54 (.ldl (.t 4) (some 6)),
 Qm 55 0,
 Qc 56 35 55,
 Qo 57 (.bsl 6 2 [(.d (.int .i64 0)),(.d (.str [])),(.d (.int .i64 0)),.AO,.AO,.AO,(.d (.int .i64 0)),(.d (.str [])),(.d (.int .i64 0)),.AO,.AO,.AO] [(0,6,(.t 54)),(6,6,(.t 56))]),
 Qo 58 (.bld [(.d (.int .i64 0)),(.d (.str [])),(.d (.int .i64 0)),.AO,.AO,.AO] [(0,1,(.c (.d (.int .i64 8)))),(3,1,(.t 53)),(4,1,(.t 57))]),
 Qz 2 58 6] [2])
 .ret)))))))))
 .skip))
 (.seq (.reg [Qm 59 0,
 Qc 60 77 59,
 Qm 5 60] [0,2,5])
 (.seq (.reg [Qm 61 0,
 Qs 62 32 61 [61]] [0,2,5])
 (.seq (.reg [Qm 63 0,
 Qc 64 35 63,
 Qo 6 (.al [(.d (.int .i64 0)),(.d (.str [])),(.d (.int .i64 0)),.AO,.AO,.AO] false),
 Qz 6 64 6] [0,2,5,6])
 (.seq (.reg [Qm 65 0,
 Qs 66 32 65 [105,110]] [0,2,5,6])
 (.seq (.reg [Qm 67 5,
 Qo 68 (.ldl (.t 6) (some 6)),
 Qm 69 0,
 Qc 70 35 69,
 Qo 71 (.bsl 6 2 [(.d (.int .i64 0)),(.d (.str [])),(.d (.int .i64 0)),.AO,.AO,.AO,(.d (.int .i64 0)),(.d (.str [])),(.d (.int .i64 0)),.AO,.AO,.AO] [(0,6,(.t 68)),(6,6,(.t 70))]),
 Qo 72 (.bld [(.d (.int .i64 0)),(.d (.str [])),(.d (.int .i64 0)),.AO,.AO,.AO] [(0,1,(.c (.d (.int .i64 7)))),(1,1,(.t 67)),(4,1,(.t 71))]),
 Qz 2 72 6] [2])
 .ret))))))
 (.seq (.reg [Qm 74 0,
 Qs 75 30 74 [105,102],
 Qm 73 75] [0,2,73])
 (.cond (.t 73) (.seq (.reg [Qm 76 0,
 Qc 77 35 76,
 Qo 7 (.al [(.d (.int .i64 0)),(.d (.str [])),(.d (.int .i64 0)),.AO,.AO,.AO] false),
 Qz 7 77 6] [0,2,7])
 (.seq (.reg [Qm 78 0,
 Qs 79 32 78 [116,104,101,110]] [0,2,7])
 (.seq (.reg [Qm 80 0,
 Qc 81 35 80,
 Qo 8 (.al [(.d (.int .i64 0)),(.d (.str [])),(.d (.int .i64 0)),.AO,.AO,.AO] false),
 Qz 8 81 6] [0,2,7,8])
 (.seq (.reg [Qm 82 0,
 Qs 83 32 82 [101,108,115,101]] [0,2,7,8])
 (.seq (.reg [Qo 84 (.ldl (.t 7) (some 6)),
 Qo 85 (.ldl (.t 8) (some 6)),
 Qm 86 0,
 Qc 87 35 86,
 Qo 88 (.bsl 6 3 [(.d (.int .i64 0)),(.d (.str [])),(.d (.int .i64 0)),.AO,.AO,.AO,(.d (.int .i64 0)),(.d (.str [])),(.d (.int .i64 0)),.AO,.AO,.AO,(.d (.int .i64 0)),(.d (.str [])),(.d (.int .i64 0)),.AO,.AO,.AO] [(0,6,(.t 84)),(6,6,(.t 85)),(12,6,(.t 87))]),
 Qo 89 (.bld [(.d (.int .i64 0)),(.d (.str [])),(.d (.int .i64 0)),.AO,.AO,.AO] [(0,1,(.c (.d (.int .i64 9)))),(4,1,(.t 88))]),
 Qz 2 89 6] [2])
 .ret)))))
 (.seq (.reg [Qm 91 0,
 Qs 92 30 91 [109,97,116,99,104],
 Qm 90 92] [0,2,90])
 (.cond (.t 90) (.seq (.reg [Qm 93 0,
 Qc 94 35 93,
 Qo 95 (.bsl 6 1 [(.d (.int .i64 0)),(.d (.str [])),(.d (.int .i64 0)),.AO,.AO,.AO] [(0,6,(.t 94))]),
 Qo 96 (.bld [(.d (.int .i64 0)),(.d (.str [])),(.d (.int .i64 0)),.AO,.AO,.AO] [(0,1,(.c (.d (.int .i64 10)))),(4,1,(.t 95))]),
 Qo 9 (.al [(.d (.int .i64 0)),(.d (.str [])),(.d (.int .i64 0)),.AO,.AO,.AO] false),
 Qz 9 96 6] [0,2,9])
 (.seq (.reg [Qm 97 0,
 Qs 98 32 97 [119,105,116,104]] [0,2,9])
 (.seq (.block 3 (.loop MT))
 (.seq (.reg [Qm 136 0,
 Qs 137 32 136 [101,110,100]] [2,9])
 (.seq (.reg [Qo 138 (.ldl (.t 9) (some 6)),
 Qz 2 138 6] [2])
 .ret)))))
 (.seq (.reg [Qm 140 0,
 Qs 141 30 140 [102,110],
 Qm 139 141] [0,2,139])
 (.cond (.t 139) (.seq (.reg [Qm 142 0,
 Qc 143 34 142,
 Qm 11 143] [0,2,11])
 (.seq (.reg [Qm 144 0,
 Qs 145 32 144 [45,62]] [0,2,11])
 (.seq (.reg [Qm 146 11,
 Qm 147 0,
 Qc 148 35 147,
 Qo 149 (.bsl 6 1 [(.d (.int .i64 0)),(.d (.str [])),(.d (.int .i64 0)),.AO,.AO,.AO] [(0,6,(.t 148))]),
 Qo 150 (.bld [(.d (.int .i64 0)),(.d (.str [])),(.d (.int .i64 0)),.AO,.AO,.AO] [(0,1,(.c (.d (.int .i64 11)))),(3,1,(.t 146)),(4,1,(.t 149))]),
 Qz 2 150 6] [2])
 .ret)))
 (.seq (.reg [Qm 152 0,
 Qs 153 30 152 [116,114,121],
 Qm 151 153] [0,2,151])
 (.cond (.t 151) (.seq (.reg [Qm 154 0,
 Qc 155 35 154,
 Qo 12 (.al [(.d (.int .i64 0)),(.d (.str [])),(.d (.int .i64 0)),.AO,.AO,.AO] false),
 Qz 12 155 6] [0,2,12])
 (.seq (.reg [Qm 156 0,
 Qs 157 32 156 [99,97,116,99,104]] [0,2,12])
 (.seq (.reg [Qm 158 0,
 Qc 159 77 158,
 Qm 13 159] [0,2,12,13])
 (.seq (.reg [Qm 160 0,
 Qs 161 32 160 [45,62]] [0,2,12,13])
 (.seq (.reg [Qm 162 0,
 Qc 163 35 162,
 Qo 14 (.al [(.d (.int .i64 0)),(.d (.str [])),(.d (.int .i64 0)),.AO,.AO,.AO] false),
 Qz 14 163 6] [0,2,12,13,14])
 (.seq (.reg [Qm 164 0,
 Qs 165 32 164 [101,110,100]] [2,12,13,14])
 (.seq (.reg [Qm 166 13,
 Qo 167 (.ldl (.t 12) (some 6)),
 Qo 168 (.ldl (.t 14) (some 6)),
 Qo 169 (.bsl 6 2 [(.d (.int .i64 0)),(.d (.str [])),(.d (.int .i64 0)),.AO,.AO,.AO,(.d (.int .i64 0)),(.d (.str [])),(.d (.int .i64 0)),.AO,.AO,.AO] [(0,6,(.t 167)),(6,6,(.t 168))]),
 Qo 170 (.bld [(.d (.int .i64 0)),(.d (.str [])),(.d (.int .i64 0)),.AO,.AO,.AO] [(0,1,(.c (.d (.int .i64 17)))),(1,1,(.t 166)),(4,1,(.t 169))]),
 Qz 2 170 6] [2])
 .ret)))))))
 .skip)))))))))))))
 (.seq (.reg [Qm 171 0,
 Qc 172 78 171,
 Qo 15 (.al [(.d (.int .i64 0)),(.d (.str [])),(.d (.int .i64 0)),.AO,.AO,.AO] false),
 Qz 15 172 6] [0,2,15])
 (.seq (.reg [Qi 16 0] [0,2,15])
 (.seq (.block 7 (.seq (.reg [Qm 175 0,
 Qs 176 30 175 [60],
 Qm 174 176] [0,2,15,174])
 (.cond (.t 174) (.reg [Qi 16 6] [0,2,15,16])
 (.seq (.reg [Qm 178 0,
 Qs 179 30 178 [60,61],
 Qm 177 179] [0,2,15,177])
 (.cond (.t 177) (.reg [Qi 16 7] [0,2,15,16])
 (.seq (.reg [Qm 181 0,
 Qs 182 30 181 [61,61],
 Qm 180 182] [0,2,15,180])
 (.cond (.t 180) (.reg [Qi 16 8] [0,2,15,16])
 (.seq (.reg [Qo 173 (.ldl (.t 15) (some 6)),
 Qz 2 173 6] [2])
 .ret))))))))
 (.seq (.reg [Qm 183 16,
 Qo 184 (.ldl (.t 15) (some 6)),
 Qm 185 0,
 Qc 186 78 185,
 Qo 187 (.bsl 6 2 [(.d (.int .i64 0)),(.d (.str [])),(.d (.int .i64 0)),.AO,.AO,.AO,(.d (.int .i64 0)),(.d (.str [])),(.d (.int .i64 0)),.AO,.AO,.AO] [(0,6,(.t 184)),(6,6,(.t 186))]),
 Qo 188 (.bld [(.d (.int .i64 0)),(.d (.str [])),(.d (.int .i64 0)),.AO,.AO,.AO] [(0,1,(.c (.d (.int .i64 13)))),(2,1,(.t 183)),(4,1,(.t 187))]),
 Qz 2 188 6] [2])
 .ret))))))
noncomputable def EA:Cx:=⟨Tryz.prog,35,Tryz.f35,189,[30,300054,300068,300084,300085,300105,300114,300128,300129,300138,300167,300168,300173,300184],[],[.c 2 (some 6)]⟩
theorem Be:Good EA:=⟨Tryz.func35,by kernel_rfl⟩
theorem WO:EA.rs=[.c 2 (some 6)]:=rfl
theorem Wp (hl:args.length≤189) (h:Run EA K [.code Oo] (Ak args) E σ):AP Tryz.prog 35 args σ K:=
 AT (cx:=EA) (code:=Tryz.f35.body.getD .skip) Be (by kernel_rfl) Tryz.ntmps35 hl (AW EA _ (Aw Oo) _ [] (by kernel_rfl)) h
def Z1:C:=(.seq (.reg [Qb 4 false] [0,1])
 (.seq (.reg [Qo 5 (.al [(.d (.int .i64 0)),(.d (.str [])),(.d (.int .i64 0))] false),
 Qm 6 0,
 Qo 7 (.nck (.t 6)),
 Qd 8 7 0,
 Qo 9 (.ld (.t 8) none),
 Qm 10 0,
 Qo 11 (.nck (.t 10)),
 Qd 12 11 1,
 Qo 13 (.ld (.t 12) none),
 Qo 14 (.ix (.t 9) (.t 13) 3),
 Qo 15 (.ld (.t 14) (some 3)),
 Qz 5 15 3] [0,1,5])
 (.seq (.reg [Qm 16 0,
 Qo 17 (.nck (.t 16)),
 Qd 18 17 2,
 Qo 19 (.ld (.t 18) none),
 Qo 20 (.un .not (.t 19)),
 Qm 21 20,
 ⟨some 22,.fld (.t 5) 0,some (21,true)⟩,
 ⟨some 23,.ldl (.t 22) none,some (21,true)⟩,
 ⟨some 24,.bin .eql (.t 23) (.c (.d (.int .i64 4))),some (21,true)⟩,
 ⟨some 25,.mv (.t 24),some (21,true)⟩,
 ⟨some 26,.fld (.t 5) 0,some (25,false)⟩,
 ⟨some 27,.ldl (.t 26) none,some (25,false)⟩,
 ⟨some 28,.bin .eql (.t 27) (.c (.d (.int .i64 5))),some (25,false)⟩,
 ⟨some 29,.pick (.t 25) (.c (.d (.bool true))) (.t 28),some (21,true)⟩,
 Qa 30 21 29,
 Qm 31 30,
 ⟨some 32,.fld (.t 5) 1,some (31,true)⟩,
 ⟨some 33,.ldl (.t 32) none,some (31,true)⟩,
 ⟨some 34,.mv (.t 1),some (31,true)⟩,
 ⟨some 35,.bin .eql (.t 33) (.t 34),some (31,true)⟩,
 Qa 36 31 35,
 Qm 4 36] [4])
 .ret)))
def bT:List (List Nat×PT):=[([0,1],.done),([0,1,5],(.lay 10 (.one 0 (.one 1 (.one 2 (.one 3 (.one 4 (.one 5 (.one 6 (.one 7 (.one 8 (.one 9 (.one 11 .done))))))))))))),([4],.done)]
noncomputable def Hb:Cx:=⟨Tryz.prog,75,Tryz.f75,37,[300023,300027,300033],[],[.t 4]⟩
theorem S9:Good Hb:=⟨Tryz.func75,by kernel_rfl⟩
theorem Y3:Hb.rs=[.t 4]:=rfl
theorem Zi (hl:args.length≤37) (h:Run Hb K [.code Z1] (Ak args) E σ):AP Tryz.prog 75 args σ K:=
 AT (cx:=Hb) (code:=Tryz.f75.body.getD .skip) S9 (by kernel_rfl) Tryz.ntmps75 hl (AW Hb _ bT _ [] (by kernel_rfl)) h
def SX:C:=(.seq (.seq (.reg [Qm 7 0,
 Qs 8 30 7 [44]] [0,3,8])
 (.cond (.t 8) .skip
 (.exit 0)))
 (.block 1 (.reg [Qm 9 3,
 Qm 10 0,
 Qc 11 132 10,
 Qo 12 (.bsl 3 1 [(.d (.int .i64 0)),(.d (.str [])),.AO] [(0,3,(.t 11))]),
 Qo 13 (.app 75 3 48 (.t 9) (.t 12)),
 Qm 3 13] [0,3])))
def OI:C:=(.seq (.reg [Qo 2 (.mv (.c .AO))] [0])
 (.seq (.reg [Qm 4 0,
 Qc 5 132 4,
 Qo 6 (.Jr 75 3 1 [(.d (.int .i64 0)),(.d (.str [])),.AO] [(0,3,(.t 5))]),
 Qm 3 6] [0,3])
 (.seq (.block 0 (.loop SX))
 (.seq (.reg [Qm 14 3,
 Qm 2 14] [2])
 .ret))))
noncomputable def FZ:Cx:=⟨Tryz.prog,76,Tryz.f76,15,[6],[],[.t 2]⟩
theorem J0:Good FZ:=⟨Tryz.func76,by kernel_rfl⟩
theorem VP:FZ.rs=[.t 2]:=rfl
theorem OP (hl:args.length≤15) (h:Run FZ K [.code OI] (Ak args) E σ):AP Tryz.prog 76 args σ K:=
 AT (cx:=FZ) (code:=Tryz.f76.body.getD .skip) J0 (by kernel_rfl) Tryz.ntmps76 hl (AW FZ _ (Aw OI) _ [] (by kernel_rfl)) h
def Om:C:=(.seq (.reg [Qo 2 (.mv (.c (.d (.str []))))] [0])
 (.seq (.seq (.reg [Qm 3 0,
 Qs 4 30 3 [95]] [0,4])
 (.cond (.t 4) (.seq (.reg [Qo 2 (.mv (.c (.d (.str []))))] [2])
 .ret)
 .skip))
 (.seq (.reg [Qm 5 0,
 Qo 6 (.call 33 [(.t 5),(.c (.d (.int .i64 1)))]),
 Qm 2 6] [2])
 .ret)))
noncomputable def Fx:Cx:=⟨Tryz.prog,77,Tryz.f77,7,[],[],[.t 2]⟩
theorem K8:Good Fx:=⟨Tryz.func77,by kernel_rfl⟩
theorem WM:Fx.rs=[.t 2]:=rfl
theorem Wn (hl:args.length≤7) (h:Run Fx K [.code Om] (Ak args) E σ):AP Tryz.prog 77 args σ K:=
 AT (cx:=Fx) (code:=Tryz.f77.body.getD .skip) K8 (by kernel_rfl) Tryz.ntmps77 hl (AW Fx _ (Aw Om) _ [] (by kernel_rfl)) h
def Uo:C:=(.block 1 (.seq (.reg [Qi 4 0] [0,2,3])
 (.seq (.seq (.reg [Qm 7 0,
 Qs 8 30 7 [43]] [0,2,3,8])
 (.cond (.t 8) (.reg [Qi 4 1] [0,2,3,4])
 (.seq (.reg [Qm 9 0,
 Qs 10 30 9 [45]] [0,2,3,10])
 (.cond (.t 10) (.reg [Qi 4 2] [0,2,3,4])
 (.seq (.reg [Qo 11 (.ldl (.t 3) (some 6)),
 Qz 2 11 6] [2])
 .ret)))))
 (.reg [Qm 12 4,
 Qo 13 (.ldl (.t 3) (some 6)),
 Qm 14 0,
 Qc 15 133 14,
 Qo 16 (.bsl 6 2 [(.d (.int .i64 0)),(.d (.str [])),(.d (.int .i64 0)),.AO,.AO,.AO,(.d (.int .i64 0)),(.d (.str [])),(.d (.int .i64 0)),.AO,.AO,.AO] [(0,6,(.t 13)),(6,6,(.t 15))]),
 Qo 17 (.bld [(.d (.int .i64 0)),(.d (.str [])),(.d (.int .i64 0)),.AO,.AO,.AO] [(0,1,(.c (.d (.int .i64 13)))),(2,1,(.t 12)),(4,1,(.t 16))]),
 Qz 3 17 6] [0,2,3]))))
def RP:C:=(.seq (.reg [Qo 2 (.al [(.d (.int .i64 0)),(.d (.str [])),(.d (.int .i64 0)),.AO,.AO,.AO] false)] [0,2])
 (.seq (.reg [Qm 5 0,
 Qc 6 133 5,
 Qo 3 (.al [(.d (.int .i64 0)),(.d (.str [])),(.d (.int .i64 0)),.AO,.AO,.AO] false),
 Qz 3 6 6] [0,2,3])
 (.block 0 (.loop Uo))))
noncomputable def Gk:Cx:=⟨Tryz.prog,78,Tryz.f78,18,[300011,300013],[],[.c 2 (some 6)]⟩
theorem R0:Good Gk:=⟨Tryz.func78,by kernel_rfl⟩
theorem XS:Gk.rs=[.c 2 (some 6)]:=rfl
theorem YS (hl:args.length≤18) (h:Run Gk K [.code RP] (Ak args) E σ):AP Tryz.prog 78 args σ K:=
 AT (cx:=Gk) (code:=Tryz.f78.body.getD .skip) R0 (by kernel_rfl) Tryz.ntmps78 hl (AW Gk _ (Aw RP) _ [] (by kernel_rfl)) h
def UZ:C:=(.seq (.reg [Qo 2 (.mv (.c (.d (.str []))))] [0])
 (.seq (.reg [Qo 4 (.bsl 1 8 [(.d (.str [])),(.d (.str [])),(.d (.str [])),(.d (.str [])),(.d (.str [])),(.d (.str [])),(.d (.str [])),(.d (.str []))] [(0,1,(.c (.d (.str [])))),(1,1,(.c (.d (.str [110,101,119])))),(2,1,(.c (.d (.str [103,101,116])))),(3,1,(.c (.d (.str [115,101,116])))),(4,1,(.c (.d (.str [108,101,110])))),(5,1,(.c (.d (.str [114,101,102])))),(6,1,(.c (.d (.str [114,101,97,100])))),(7,1,(.c (.d (.str [119,114,105,116,101]))))]),
 Qm 3 4] [0,3])
 (.seq (.seq (.reg [Qm 5 0,
 Qo 6 (.bin .lss (.t 5) (.c (.d (.int .i64 1)))),
 Qm 7 6,
 ⟨some 8,.mv (.t 0),some (7,false)⟩,
 ⟨some 9,.mv (.t 3),some (7,false)⟩,
 ⟨some 10,.len (.t 9),some (7,false)⟩,
 ⟨some 11,.bin .geq (.t 8) (.t 10),some (7,false)⟩,
 Qr 12 7 11] [0,3,12])
 (.cond (.t 12) (.seq (.reg [Qo 2 (.mv (.c (.d (.str []))))] [2])
 .ret)
 .skip))
 (.seq (.reg [Qm 13 3,
 Qm 14 0,
 Qo 15 (.ix (.t 13) (.t 14) 1),
 Qo 16 (.ld (.t 15) none),
 Qm 2 16] [2])
 .ret))))
noncomputable def I1:Cx:=⟨Tryz.prog,100,Tryz.f100,17,[],[],[.t 2]⟩
theorem U9:Good I1:=⟨Tryz.func100,by kernel_rfl⟩
theorem aP:I1.rs=[.t 2]:=rfl
theorem cX (hl:args.length≤17) (h:Run I1 K [.code UZ] (Ak args) E σ):AP Tryz.prog 100 args σ K:=
 AT (cx:=I1) (code:=Tryz.f100.body.getD .skip) U9 (by kernel_rfl) Tryz.ntmps100 hl (AW I1 _ (Aw UZ) _ [] (by kernel_rfl)) h
def RQ:C:=(.seq (.reg [Qo 2 (.al [(.d (.int .i64 0)),(.d (.str [])),.AO] false)] [0,2])
 (.seq (.block 0 (.seq (.reg [Qm 8 0,
 Qo 9 (.nck (.t 8)),
 Qd 10 9 2,
 Qo 11 (.ld (.t 10) none),
 Qm 7 11] [0,2,7])
 (.cond (.t 7) (.seq (.reg [Qo 12 (.bld [(.d (.int .i64 0)),(.d (.str [])),.AO] []),
 Qz 2 12 3] [2])
 .ret)
 (.seq (.reg [Qm 14 0,
 Qs 15 30 14 [105,110,116],
 Qm 13 15] [0,2,13])
 (.cond (.t 13) (.seq (.reg [Qo 16 (.bld [(.d (.int .i64 0)),(.d (.str [])),.AO] [(0,1,(.c (.d (.int .i64 1))))]),
 Qz 2 16 3] [2])
 .ret)
 (.seq (.reg [Qm 18 0,
 Qs 19 30 18 [98,111,111,108],
 Qm 17 19] [0,2,17])
 (.cond (.t 17) (.seq (.reg [Qo 20 (.bld [(.d (.int .i64 0)),(.d (.str [])),.AO] [(0,1,(.c (.d (.int .i64 2))))]),
 Qz 2 20 3] [2])
 .ret)
 (.seq (.reg [Qm 22 0,
 Qs 23 30 22 [117,110,105,116],
 Qm 21 23] [0,2,21])
 (.cond (.t 21) (.seq (.reg [Qo 24 (.bld [(.d (.int .i64 0)),(.d (.str [])),.AO] [(0,1,(.c (.d (.int .i64 3))))]),
 Qz 2 24 3] [2])
 .ret)
 (.seq (.reg [Qm 26 0,
 Qo 27 (.nck (.t 26)),
 Qd 28 27 0,
 Qo 29 (.ld (.t 28) none),
 Qm 30 0,
 Qo 31 (.nck (.t 30)),
 Qd 32 31 1,
 Qo 33 (.ld (.t 32) none),
 Qo 34 (.ix (.t 29) (.t 33) 3),
 Qd 35 34 0,
 Qo 36 (.ld (.t 35) none),
 Qe 37 36 1,
 Qm 25 37] [0,2,25])
 (.cond (.t 25) (.seq (.reg [Qm 38 0,
 Qo 39 (.call 33 [(.t 38),(.c (.d (.int .i64 1)))]),
 Qo 40 (.bld [(.d (.int .i64 0)),(.d (.str [])),.AO] [(0,1,(.c (.d (.int .i64 4)))),(1,1,(.t 39))]),
 Qz 2 40 3] [2])
 .ret)
 (.seq (.reg [Qm 42 0,
 Qo 43 (.nck (.t 42)),
 Qd 44 43 0,
 Qo 45 (.ld (.t 44) none),
 Qm 46 0,
 Qo 47 (.nck (.t 46)),
 Qd 48 47 1,
 Qo 49 (.ld (.t 48) none),
 Qo 50 (.ix (.t 45) (.t 49) 3),
 Qd 51 50 0,
 Qo 52 (.ld (.t 51) none),
 Qe 53 52 2,
 Qm 41 53] [0,2,41])
 (.cond (.t 41) (.seq (.reg [Qm 54 0,
 Qo 55 (.call 33 [(.t 54),(.c (.d (.int .i64 2)))]),
 Qo 56 (.bld [(.d (.int .i64 0)),(.d (.str [])),.AO] [(0,1,(.c (.d (.int .i64 5)))),(1,1,(.t 55))]),
 Qo 3 (.al [(.d (.int .i64 0)),(.d (.str [])),.AO] false),
 Qz 3 56 3] [0,2,3])
 (.seq (.seq (.reg [Qm 57 0,
 Qs 58 30 57 [40]] [0,2,3,58])
 (.cond (.t 58) (.seq (.reg [Qm 59 0,
 Qc 60 76 59,
 Qd 61 3 2,
 Qz 61 60 1] [0,2,3])
 (.reg [Qm 62 0,
 Qs 63 32 62 [41]] [2,3]))
 .skip))
 (.seq (.reg [Qo 64 (.ldl (.t 3) (some 3)),
 Qz 2 64 3] [2])
 .ret)))
 (.seq (.reg [Qm 66 0,
 Qs 67 75 66 [97,114,114,97,121],
 Qm 68 67,
 ⟨some 69,.mv (.t 0),some (68,false)⟩,
 ⟨some 70,.call 75 [(.t 69),(.c (.d (.str [114,101,102])))],some (68,false)⟩,
 Qr 71 68 70,
 Qm 65 71] [0,2,65])
 (.cond (.t 65) (.seq (.reg [Qo 72 (.bld [(.d (.int .i64 0)),(.d (.str [])),.AO] [(0,1,(.c (.d (.int .i64 7))))]),
 Qo 4 (.al [(.d (.int .i64 0)),(.d (.str [])),.AO] false),
 Qz 4 72 3] [0,2,4])
 (.seq (.seq (.reg [Qm 73 0,
 Qs 74 75 73 [114,101,102]] [0,2,4,74])
 (.cond (.t 74) (.reg [Qd 75 4 0,
 ⟨none,.st (.t 75) (.c (.d (.int .i64 8))) 1,none⟩] [0,2,4])
 .skip))
 (.seq (.reg [Qm 76 0,
 Qo 77 (.nck (.t 76)),
 Qd 78 77 1,
 Qo 79 (.ld (.t 78) none),
 Qp 80 79 1,
 Qo 81 (.nck (.t 76)),
 Qd 82 81 1,
 Qz 82 80 1] [0,2,4])
 (.seq (.reg [Qm 83 0,
 Qs 84 32 83 [40]] [0,2,4])
 (.seq (.reg [Qm 85 0,
 Qc 86 132 85,
 Qo 87 (.bsl 3 1 [(.d (.int .i64 0)),(.d (.str [])),.AO] [(0,3,(.t 86))]),
 Qd 88 4 2,
 Qz 88 87 1] [0,2,4])
 (.seq (.reg [Qm 89 0,
 Qs 90 32 89 [41]] [2,4])
 (.seq (.reg [Qo 91 (.ldl (.t 4) (some 3)),
 Qz 2 91 3] [2])
 .ret)))))))
 (.seq (.reg [Qm 93 0,
 Qs 94 30 93 [102,110],
 Qm 92 94] [0,2,92])
 (.cond (.t 92) (.seq (.reg [Qo 95 (.bld [(.d (.int .i64 0)),(.d (.str [])),.AO] [(0,1,(.c (.d (.int .i64 9))))]),
 Qo 5 (.al [(.d (.int .i64 0)),(.d (.str [])),.AO] false),
 Qz 5 95 3] [0,2,5])
 (.seq (.reg [Qm 96 0,
 Qs 97 32 96 [40]] [0,2,5])
 (.seq (.seq (.reg [Qm 98 0,
 Qs 99 30 98 [41],
 Qo 100 (.un .not (.t 99))] [0,2,5,100])
 (.cond (.t 100) (.seq (.reg [Qm 101 0,
 Qc 102 76 101,
 Qd 103 5 2,
 Qz 103 102 1] [0,2,5])
 (.reg [Qm 104 0,
 Qs 105 32 104 [41]] [0,2,5]))
 .skip))
 (.seq (.reg [Qm 106 0,
 Qs 107 32 106 [45,62]] [0,2,5])
 (.seq (.reg [Qd 108 5 2,
 Ql 109 108,
 Qm 110 0,
 Qc 111 132 110,
 Qo 112 (.bsl 3 1 [(.d (.int .i64 0)),(.d (.str [])),.AO] [(0,3,(.t 111))]),
 Qo 113 (.app 75 3 48 (.t 109) (.t 112)),
 Qd 114 5 2,
 Qz 114 113 1] [2,5])
 (.seq (.reg [Qo 115 (.ldl (.t 5) (some 3)),
 Qz 2 115 3] [2])
 .ret))))))
 .skip)))))))))))))))))
 (.seq (.reg [Qm 116 0,
 Qs 117 32 116 [40]] [0,2])
 (.seq (.reg [Qm 118 0,
 Qc 119 132 118,
 Qo 120 (.Jr 75 3 1 [(.d (.int .i64 0)),(.d (.str [])),.AO] [(0,3,(.t 119))]),
 Qo 121 (.bld [(.d (.int .i64 0)),(.d (.str [])),.AO] [(0,1,(.c (.d (.int .i64 6)))),(2,1,(.t 120))]),
 Qo 6 (.al [(.d (.int .i64 0)),(.d (.str [])),.AO] false),
 Qz 6 121 3] [0,2,6])
 (.seq (.reg [Qm 122 0,
 Qs 123 32 122 [44]] [0,2,6])
 (.seq (.reg [Qd 124 6 2,
 Ql 125 124,
 Qm 126 0,
 Qc 127 76 126,
 Qo 128 (.app 75 3 48 (.t 125) (.t 127)),
 Qd 129 6 2,
 Qz 129 128 1] [0,2,6])
 (.seq (.reg [Qm 130 0,
 Qs 131 32 130 [41]] [2,6])
 (.seq (.reg [Qo 132 (.ldl (.t 6) (some 3)),
 Qz 2 132 3] [2])
 .ret))))))))
noncomputable def Gl:Cx:=⟨Tryz.prog,132,Tryz.f132,133,[120,300064,300091,300109,300115,300125,300132],[],[.c 2 (some 3)]⟩
theorem B4:Good Gl:=⟨Tryz.func132,by kernel_rfl⟩
theorem XU:Gl.rs=[.c 2 (some 3)]:=rfl
theorem R4 (hl:args.length≤133) (h:Run Gl K [.code RQ] (Ak args) E σ):AP Tryz.prog 132 args σ K:=
 AT (cx:=Gl) (code:=Tryz.f132.body.getD .skip) B4 (by kernel_rfl) Tryz.ntmps132 hl (AW Gl _ (Aw RQ) _ [] (by kernel_rfl)) h
def Tn:C:=(.block 1 (.seq (.reg [Qi 4 0] [0,2,3])
 (.seq (.seq (.reg [Qm 7 0,
 Qs 8 30 7 [42]] [0,2,3,8])
 (.cond (.t 8) (.reg [Qi 4 3] [0,2,3,4])
 (.seq (.reg [Qm 9 0,
 Qs 10 30 9 [47]] [0,2,3,10])
 (.cond (.t 10) (.reg [Qi 4 4] [0,2,3,4])
 (.seq (.reg [Qm 11 0,
 Qs 12 30 11 [37]] [0,2,3,12])
 (.cond (.t 12) (.reg [Qi 4 5] [0,2,3,4])
 (.seq (.reg [Qo 13 (.ldl (.t 3) (some 6)),
 Qz 2 13 6] [2])
 .ret)))))))
 (.reg [Qm 14 4,
 Qo 15 (.ldl (.t 3) (some 6)),
 Qm 16 0,
 Qc 17 174 16,
 Qo 18 (.bsl 6 2 [(.d (.int .i64 0)),(.d (.str [])),(.d (.int .i64 0)),.AO,.AO,.AO,(.d (.int .i64 0)),(.d (.str [])),(.d (.int .i64 0)),.AO,.AO,.AO] [(0,6,(.t 15)),(6,6,(.t 17))]),
 Qo 19 (.bld [(.d (.int .i64 0)),(.d (.str [])),(.d (.int .i64 0)),.AO,.AO,.AO] [(0,1,(.c (.d (.int .i64 13)))),(2,1,(.t 14)),(4,1,(.t 18))]),
 Qz 3 19 6] [0,2,3]))))
def Ot:C:=(.seq (.reg [Qo 2 (.al [(.d (.int .i64 0)),(.d (.str [])),(.d (.int .i64 0)),.AO,.AO,.AO] false)] [0,2])
 (.seq (.reg [Qm 5 0,
 Qc 6 174 5,
 Qo 3 (.al [(.d (.int .i64 0)),(.d (.str [])),(.d (.int .i64 0)),.AO,.AO,.AO] false),
 Qz 3 6 6] [0,2,3])
 (.block 0 (.loop Tn))))
noncomputable def GA:Cx:=⟨Tryz.prog,133,Tryz.f133,20,[300013,300015],[],[.c 2 (some 6)]⟩
theorem PF:Good GA:=⟨Tryz.func133,by kernel_rfl⟩
theorem WS:GA.rs=[.c 2 (some 6)]:=rfl
theorem Ws (hl:args.length≤20) (h:Run GA K [.code Ot] (Ak args) E σ):AP Tryz.prog 133 args σ K:=
 AT (cx:=GA) (code:=Tryz.f133.body.getD .skip) PF (by kernel_rfl) Tryz.ntmps133 hl (AW GA _ (Aw Ot) _ [] (by kernel_rfl)) h
def Un:C:=(.seq (.seq (.reg [Qm 7 0,
 Qs 8 30 7 [40]] [0,2,3,8])
 (.cond (.t 8) .skip
 (.exit 0)))
 (.block 1 (.seq (.reg [Qo 9 (.ldl (.t 3) (some 6)),
 Qo 10 (.Jr 44 6 1 [(.d (.int .i64 0)),(.d (.str [])),(.d (.int .i64 0)),.AO,.AO,.AO] [(0,6,(.t 9))]),
 Qm 4 10] [0,2,3,4])
 (.seq (.seq (.reg [Qm 11 0,
 Qs 12 30 11 [41],
 Qo 13 (.un .not (.t 12))] [0,2,3,4,13])
 (.cond (.t 13) (.seq (.reg [Qm 14 4,
 Qm 15 0,
 Qc 16 190 15,
 Qo 17 (.app 44 6 104 (.t 14) (.t 16)),
 Qm 4 17] [0,2,3,4])
 (.reg [Qm 18 0,
 Qs 19 32 18 [41]] [0,2,3,4]))
 .skip))
 (.reg [Qm 20 4,
 Qo 21 (.bld [(.d (.int .i64 0)),(.d (.str [])),(.d (.int .i64 0)),.AO,.AO,.AO] [(0,1,(.c (.d (.int .i64 12)))),(4,1,(.t 20))]),
 Qz 3 21 6] [0,2,3])))))
def RO:C:=(.seq (.reg [Qo 2 (.al [(.d (.int .i64 0)),(.d (.str [])),(.d (.int .i64 0)),.AO,.AO,.AO] false)] [0,2])
 (.seq (.reg [Qm 5 0,
 Qc 6 189 5,
 Qo 3 (.al [(.d (.int .i64 0)),(.d (.str [])),(.d (.int .i64 0)),.AO,.AO,.AO] false),
 Qz 3 6 6] [0,2,3])
 (.seq (.block 0 (.loop Un))
 (.seq (.reg [Qo 22 (.ldl (.t 3) (some 6)),
 Qz 2 22 6] [2])
 .ret))))
noncomputable def Gj:Cx:=⟨Tryz.prog,174,Tryz.f174,23,[10,300009,300022],[],[.c 2 (some 6)]⟩
theorem RZ:Good Gj:=⟨Tryz.func174,by kernel_rfl⟩
theorem XR:Gj.rs=[.c 2 (some 6)]:=rfl
theorem YR (hl:args.length≤23) (h:Run Gj K [.code RO] (Ak args) E σ):AP Tryz.prog 174 args σ K:=
 AT (cx:=Gj) (code:=Tryz.f174.body.getD .skip) RZ (by kernel_rfl) Tryz.ntmps174 hl (AW Gj _ (Aw RO) _ [] (by kernel_rfl)) h
def Tl:C:=(.seq (.seq (.reg [Qm 129 11,
 Qm 130 9,
 Qc 131 111 130,
 Qo 132 (.bin .lss (.t 129) (.t 131))] [0,2,9,10,11,132])
 (.cond (.t 132) .skip
 (.exit 3)))
 (.seq (.block 4 (.seq (.seq (.reg [Qm 135 11,
 Qo 136 (.bin .gtr (.t 135) (.c (.d (.int .i64 0))))] [0,2,9,10,11,136])
 (.cond (.t 136) (.reg [Qm 137 0,
 Qs 138 32 137 [44]] [0,2,9,10,11])
 .skip))
 (.reg [Qd 139 10 4,
 Ql 140 139,
 Qm 141 0,
 Qc 142 35 141,
 Qo 143 (.bsl 6 1 [(.d (.int .i64 0)),(.d (.str [])),(.d (.int .i64 0)),.AO,.AO,.AO] [(0,6,(.t 142))]),
 Qo 144 (.app 44 6 104 (.t 140) (.t 143)),
 Qd 145 10 4,
 Qz 145 144 1] [0,2,9,10,11])))
 (.reg [Qm 133 11,
 Qp 134 133 1,
 Qm 11 134] [0,2,9,10,11])))
def Tm:C:=(.seq (.seq (.reg [Qm 117 9,
 Qo 118 (.bin .leq (.t 117) (.c (.d (.int .i64 7))))] [0,2,9,118])
 (.cond (.t 118) .skip
 (.exit 1)))
 (.seq (.block 2 (.seq (.reg [Qm 121 0,
 Qm 122 9,
 Qc 123 100 122,
 Qk 124 30 121 123] [0,2,9,124])
 (.cond (.t 124) (.seq (.reg [Qm 125 0,
 Qs 126 32 125 [40]] [0,2,9])
 (.seq (.reg [Qm 127 9,
 Qo 128 (.bld [(.d (.int .i64 0)),(.d (.str [])),(.d (.int .i64 0)),.AO,.AO,.AO] [(0,1,(.c (.d (.int .i64 14)))),(2,1,(.t 127))]),
 Qo 10 (.al [(.d (.int .i64 0)),(.d (.str [])),(.d (.int .i64 0)),.AO,.AO,.AO] false),
 Qz 10 128 6] [0,2,9,10])
 (.seq (.seq (.reg [Qi 11 0] [0,2,9,10,11])
 (.block 3 (.loop Tl)))
 (.seq (.reg [Qm 146 0,
 Qs 147 32 146 [41]] [2,10])
 (.seq (.reg [Qo 148 (.ldl (.t 10) (some 6)),
 Qz 2 148 6] [2])
 .ret)))))
 .skip)))
 (.reg [Qm 119 9,
 Qp 120 119 1,
 Qm 9 120] [0,2,9])))
def Wd:C:=(.seq (.reg [Qo 2 (.al [(.d (.int .i64 0)),(.d (.str [])),(.d (.int .i64 0)),.AO,.AO,.AO] false)] [0,2])
 (.seq (.seq (.reg [Qm 12 0,
 Qo 13 (.nck (.t 12)),
 Qd 14 13 2,
 Qo 15 (.ld (.t 14) none)] [0,2,15])
 (.cond (.t 15) (.seq (.reg [Qo 16 (.bld [(.d (.int .i64 0)),(.d (.str [])),(.d (.int .i64 0)),.AO,.AO,.AO] []),
 Qz 2 16 6] [2])
 .ret)
 .skip))
 (.seq (.seq (.reg [Qo 3 (.al [(.d (.int .i64 0)),(.d (.str [])),(.d (.int .i64 0))] false),
 Qm 17 0,
 Qo 18 (.nck (.t 17)),
 Qd 19 18 0,
 Qo 20 (.ld (.t 19) none),
 Qm 21 0,
 Qo 22 (.nck (.t 21)),
 Qd 23 22 1,
 Qo 24 (.ld (.t 23) none),
 Qo 25 (.ix (.t 20) (.t 24) 3),
 Qo 26 (.ld (.t 25) (some 3)),
 Qz 3 26 3] [0,2,3])
 (.block 0 (.seq (.reg [Qd 28 3 0,
 Ql 29 28,
 Qe 30 29 3,
 Qm 27 30] [0,2,3,27])
 (.cond (.t 27) (.seq (.reg [Qm 31 0,
 Qc 32 198 31,
 Qo 33 (.bld [(.d (.int .i64 0)),(.d (.str [])),(.d (.int .i64 0)),.AO,.AO,.AO] [(0,1,(.c (.d (.int .i64 3)))),(2,1,(.t 32))]),
 Qz 2 33 6] [2])
 .ret)
 (.seq (.reg [Qm 35 0,
 Qs 36 30 35 [45],
 Qm 34 36] [0,2,3,34])
 (.cond (.t 34) (.seq (.reg [Qm 37 0,
 Qc 38 198 37,
 Qo 39 (.un .neg (.t 38)),
 Qo 40 (.bld [(.d (.int .i64 0)),(.d (.str [])),(.d (.int .i64 0)),.AO,.AO,.AO] [(0,1,(.c (.d (.int .i64 3)))),(2,1,(.t 39))]),
 Qz 2 40 6] [2])
 .ret)
 (.seq (.reg [Qm 42 0,
 Qs 43 30 42 [116,114,117,101],
 Qm 41 43] [0,2,3,41])
 (.cond (.t 41) (.seq (.reg [Qo 44 (.bld [(.d (.int .i64 0)),(.d (.str [])),(.d (.int .i64 0)),.AO,.AO,.AO] [(0,1,(.c (.d (.int .i64 2)))),(2,1,(.c (.d (.int .i64 1))))]),
 Qz 2 44 6] [2])
 .ret)
 (.seq (.reg [Qm 46 0,
 Qs 47 30 46 [102,97,108,115,101],
 Qm 45 47] [0,2,3,45])
 (.cond (.t 45) (.seq (.reg [Qo 48 (.bld [(.d (.int .i64 0)),(.d (.str [])),(.d (.int .i64 0)),.AO,.AO,.AO] [(0,1,(.c (.d (.int .i64 2))))]),
 Qz 2 48 6] [2])
 .ret)
 (.seq (.reg [Qm 50 0,
 Qs 51 30 50 [40],
 Qm 49 51] [0,2,3,49])
 (.cond (.t 49) (.seq (.seq (.reg [Qm 52 0,
 Qs 53 30 52 [41]] [0,2,53])
 (.cond (.t 53) (.seq (.reg [Qo 54 (.bld [(.d (.int .i64 0)),(.d (.str [])),(.d (.int .i64 0)),.AO,.AO,.AO] [(0,1,(.c (.d (.int .i64 1))))]),
 Qz 2 54 6] [2])
 .ret)
 .skip))
 (.seq (.reg [Qm 55 0,
 Qc 56 190 55,
 Qm 4 56] [0,2,4])
 (.seq (.reg [Qm 57 0,
 Qs 58 32 57 [41]] [2,4])
 (.seq (.seq (.reg [Qm 59 4,
 Qo 60 (.len (.t 59)),
 Qe 61 60 1] [2,4,61])
 (.cond (.t 61) (.seq (.reg [Qm 62 4,
 Qo 63 (.ix (.t 62) (.c (.d (.int .i64 0))) 6),
 Qo 64 (.ld (.t 63) (some 6)),
 Qz 2 64 6] [2])
 .ret)
 .skip))
 (.seq (.reg [Qm 65 4,
 Qo 66 (.bld [(.d (.int .i64 0)),(.d (.str [])),(.d (.int .i64 0)),.AO,.AO,.AO] [(0,1,(.c (.d (.int .i64 5)))),(4,1,(.t 65))]),
 Qz 2 66 6] [2])
 .ret)))))
 (.seq (.reg [Qd 68 3 0,
 Ql 69 68,
 Qe 70 69 1,
 Qm 67 70] [0,2,3,67])
 (.cond (.t 67) (.seq (.reg [Qm 71 0,
 Qo 72 (.call 33 [(.t 71),(.c (.d (.int .i64 1)))]),
 Qo 73 (.bld [(.d (.int .i64 0)),(.d (.str [])),(.d (.int .i64 0)),.AO,.AO,.AO] [(0,1,(.c (.d (.int .i64 4)))),(1,1,(.t 72))]),
 Qz 2 73 6] [2])
 .ret)
 (.seq (.reg [Qd 75 3 0,
 Ql 76 75,
 Qe 77 76 2,
 Qm 74 77] [0,2,74])
 (.cond (.t 74) (.seq (.reg [Qm 78 0,
 Qo 79 (.call 33 [(.t 78),(.c (.d (.int .i64 2)))]),
 Qo 80 (.bld [(.d (.int .i64 0)),(.d (.str [])),(.d (.int .i64 0)),.AO,.AO,.AO] [(0,1,(.c (.d (.int .i64 6)))),(1,1,(.t 79))]),
 Qo 5 (.al [(.d (.int .i64 0)),(.d (.str [])),(.d (.int .i64 0)),.AO,.AO,.AO] false),
 Qz 5 80 6] [0,2,5])
 (.seq (.seq (.reg [Qm 81 0,
 Qs 82 30 81 [40]] [0,2,5,82])
 (.cond (.t 82) (.seq (.reg [Qm 83 0,
 Qc 84 190 83,
 Qd 85 5 4,
 Qz 85 84 1] [0,2,5])
 (.reg [Qm 86 0,
 Qs 87 32 86 [41]] [2,5]))
 .skip))
 (.seq (.reg [Qo 88 (.ldl (.t 5) (some 6)),
 Qz 2 88 6] [2])
 .ret)))
 (.seq (.reg [Qm 90 0,
 Qs 91 30 90 [116,105,99,107],
 Qm 89 91] [0,2,89])
 (.cond (.t 89) (.seq (.reg [Qm 92 0,
 Qs 93 32 92 [40]] [0,2])
 (.seq (.reg [Qm 94 0,
 Qs 95 30 94 [45],
 Qm 6 95] [0,2,6])
 (.seq (.reg [Qm 96 0,
 Qc 97 198 96,
 Qm 7 97] [0,2,6,7])
 (.seq (.seq (.reg [Qm 98 6] [0,2,7,98])
 (.cond (.t 98) (.reg [Qm 99 7,
 Qo 100 (.un .neg (.t 99)),
 Qm 7 100] [0,2,7])
 .skip))
 (.seq (.reg [Qm 101 0,
 Qs 102 32 101 [41]] [2,7])
 (.seq (.reg [Qm 103 7,
 Qo 104 (.bld [(.d (.int .i64 0)),(.d (.str [])),(.d (.int .i64 0)),.AO,.AO,.AO] [(0,1,(.c (.d (.int .i64 15)))),(2,1,(.t 103))]),
 Qz 2 104 6] [2])
 .ret))))))
 (.seq (.reg [Qm 106 0,
 Qs 107 30 106 [114,97,105,115,101],
 Qm 105 107] [0,2,105])
 (.cond (.t 105) (.seq (.reg [Qm 108 0,
 Qs 109 32 108 [40]] [0,2])
 (.seq (.reg [Qm 110 0,
 Qc 111 35 110,
 Qo 8 (.al [(.d (.int .i64 0)),(.d (.str [])),(.d (.int .i64 0)),.AO,.AO,.AO] false),
 Qz 8 111 6] [0,2,8])
 (.seq (.reg [Qm 112 0,
 Qs 113 32 112 [41]] [2,8])
 (.seq (.reg [Qo 114 (.ldl (.t 8) (some 6)),
 Qo 115 (.bsl 6 1 [(.d (.int .i64 0)),(.d (.str [])),(.d (.int .i64 0)),.AO,.AO,.AO] [(0,6,(.t 114))]),
 Qo 116 (.bld [(.d (.int .i64 0)),(.d (.str [])),(.d (.int .i64 0)),.AO,.AO,.AO] [(0,1,(.c (.d (.int .i64 16)))),(4,1,(.t 115))]),
 Qz 2 116 6] [2])
 .ret))))
 .skip))))))))))))))))))))
 (.seq (.seq (.reg [Qi 9 1] [0,2,9])
 (.block 1 (.loop Tm)))
 (.seq (.reg [Qm 149 0,
 Qo 150 (.nck (.t 149)),
 Qd 151 150 2,
 ⟨none,.st (.t 151) (.c (.d (.bool true))) 1,none⟩] [2])
 (.seq (.reg [Qo 152 (.bld [(.d (.int .i64 0)),(.d (.str [])),(.d (.int .i64 0)),.AO,.AO,.AO] []),
 Qz 2 152 6] [2])
 .ret))))))
def X8:List (List Nat×PT):=[([0,2],.done),([0,2,15],.done),([2],.done),([0,2,3],(.lay 10 (.one 0 (.one 1 (.one 2 (.one 3 (.one 4 (.one 5 (.one 6 (.one 7 (.one 8 (.one 9 (.one 11 .done))))))))))))),([0,2,3,27],.done),([2],.done),([0,2,3,34],.done),([2],.done),([0,2,3,41],.done),([2],.done),([0,2,3,45],.done),([2],.done),([0,2,3,49],.done),([0,2,53],.done),([2],.done),([0,2,4],.done),([2,4],.done),([2,4,61],.done),([2],.done),([2],.done),([0,2,3,67],.done),([2],.done),([0,2,74],.done),([0,2,5],.done),([0,2,5,82],.done),([0,2,5],.done),([2,5],.done),([2],.done),([0,2,89],.done),([0,2],.done),([0,2,6],.done),([0,2,6,7],.done),([0,2,7,98],.done),([0,2,7],.done),([2,7],.done),([2],.done),([0,2,105],.done),([0,2],.done),([0,2,8],.done),([2,8],.done),([2],.done),([0,2,9],.done),([0,2,9,118],.done),([0,2,9,124],.done),([0,2,9],.done),([0,2,9,10],.done),([0,2,9,10,11],.done),([0,2,9,10,11,132],.done),([0,2,9,10,11,136],.done),([0,2,9,10,11],.done),([0,2,9,10,11],.done),([0,2,9,10,11],.done),([2,10],.done),([2],.done),([0,2,9],.done),([2],.done),([2],.done)]
noncomputable def Fz:Cx:=⟨Tryz.prog,189,Tryz.f189,153,[300029,300069,300076,300088,300114,300140,300148],[],[.c 2 (some 6)]⟩
theorem BJ:Good Fz:=⟨Tryz.func189,by kernel_rfl⟩
theorem WR:Fz.rs=[.c 2 (some 6)]:=rfl
theorem Wr (hl:args.length≤153) (h:Run Fz K [.code Wd] (Ak args) E σ):AP Tryz.prog 189 args σ K:=
 AT (cx:=Fz) (code:=Tryz.f189.body.getD .skip) BJ (by kernel_rfl) Tryz.ntmps189 hl (AW Fz _ X8 _ [] (by kernel_rfl)) h
def SU:C:=(.seq (.seq (.reg [Qm 7 0,
 Qs 8 30 7 [44]] [0,3,8])
 (.cond (.t 8) .skip
 (.exit 0)))
 (.block 1 (.reg [Qm 9 3,
 Qm 10 0,
 Qc 11 35 10,
 Qo 12 (.bsl 6 1 [(.d (.int .i64 0)),(.d (.str [])),(.d (.int .i64 0)),.AO,.AO,.AO] [(0,6,(.t 11))]),
 Qo 13 (.app 44 6 104 (.t 9) (.t 12)),
 Qm 3 13] [0,3])))
def OG:C:=(.seq (.reg [Qo 2 (.mv (.c .AO))] [0])
 (.seq (.reg [Qm 4 0,
 Qc 5 35 4,
 Qo 6 (.Jr 44 6 1 [(.d (.int .i64 0)),(.d (.str [])),(.d (.int .i64 0)),.AO,.AO,.AO] [(0,6,(.t 5))]),
 Qm 3 6] [0,3])
 (.seq (.block 0 (.loop SU))
 (.seq (.reg [Qm 14 3,
 Qm 2 14] [2])
 .ret))))
noncomputable def FX:Cx:=⟨Tryz.prog,190,Tryz.f190,15,[6],[],[.t 2]⟩
theorem OO:Good FX:=⟨Tryz.func190,by kernel_rfl⟩
theorem VN:FX.rs=[.t 2]:=rfl
theorem Vn (hl:args.length≤15) (h:Run FX K [.code OG] (Ak args) E σ):AP Tryz.prog 190 args σ K:=
 AT (cx:=FX) (code:=Tryz.f190.body.getD .skip) OO (by kernel_rfl) Tryz.ntmps190 hl (AW FX _ (Aw OG) _ [] (by kernel_rfl)) h
def ND:C:=(.seq (.reg [Qi 2 0] [0])
 (.seq (.reg [Qm 6 0,
 Qo 7 (.call 33 [(.t 6),(.c (.d (.int .i64 3)))]),
 Qc 8 73 7,
 Qm 5 8,
 Qo 9 (.ext (.t 5) 0),
 Qo 10 (.ext (.t 5) 1),
 Qm 3 9,
 Qm 4 10] [3])
 (.seq (.reg [Qm 11 3,
 Qm 2 11] [2])
 .ret)))
noncomputable def Ez:Cx:=⟨Tryz.prog,198,Tryz.f198,12,[],[],[.t 2]⟩
theorem NR:Good Ez:=⟨Tryz.func198,by kernel_rfl⟩
theorem UA:Ez.rs=[.t 2]:=rfl
theorem Ux (hl:args.length≤12) (h:Run Ez K [.code ND] (Ak args) E σ):AP Tryz.prog 198 args σ K:=
 AT (cx:=Ez) (code:=Tryz.f198.body.getD .skip) NR (by kernel_rfl) Tryz.ntmps198 hl (AW Ez _ (Aw ND) _ [] (by kernel_rfl)) h
attribute [go_sem] j4 WT WN WQ WU VO WO Y3 VP WM XS aP XU WS XR WR VN UA
end Go.Ab
