/- The parser: types. Texts split into tokens, as the reference does it. Conditions: none. -/
import Derived.Test.YtifplkldbbcldaaGreatDoorXDt
set_option linter.unusedSimpArgs false
set_option linter.unusedVariables false
set_option maxRecDepth 4000
set_option maxHeartbeats 8000000
open List renaming map_cons→AG,map_nil→AH,mem_map→Iw,length_pos_iff→Aj,length_map→AE,length_cons→AB,length_nil→AD,map_append→Bg,getElem?_drop→BO,getElem?_eq_none→Jm,getElem?_eq_some_iff→Ad,length_drop→Ao,drop_take→Ko,drop_drop→CN,length_append→AA,length_singleton→Qr,mem_singleton→Dy,length_take→B1,length_eq_zero_iff→OE,drop_length→RJ
open Bool renaming false_eq_true→AU,or_eq_false_iff→EA,and_true→BH,and_false→Dd,true_and→BK,false_and→Ea,not_eq_true→RH,eq_iff_iff→Dt
open Nat renaming lt_or_ge→Co,add_zero→Eb,le_refl→A8
open Option renaming isSome_some→JA,isSome_none→Iz
namespace Go.Ab
open Go.Proofs
variable {α β:Type}
theorem run_bind (m:PM α) (k:α→PM β) (s:PSt):(m.bind k).run s=(k (m.run s).1).run (m.run s).2:=rfl
theorem run_pure (a:α) (s:PSt):(PM.pure a).run s=(a,s):=rfl
theorem wA (a:α) (s:PSt):(PM.fail a).run s=(a,s.fail):=rfl
theorem run_map (g:α→β) (m:PM α) (s:PSt):(m.map g).run s=(g (m.run s).1,(m.run s).2):=rfl
theorem jH (k:Int) (y n:PM α) (s:PSt):(PM.kind k y n).run s=if (s.hd.kind==k)=true then y.run s else n.run s:=rfl
theorem Hb (t:Str) (ht:t≠[]) (y n:PM α) (s:PSt):(PM.acc t ht y n).run s=if (s.hd.text==t)=true then y.run s.adv else n.run s:=rfl
theorem DN (i:Nat) (L:List Tok) (n:Nat) (t:Str) (ht:t≠[]):PC 127 [.gp i 0,.d (.str t)] i L n (PM.exp t ht) (fun _=>.tup []):=fun σ s _ h1 _ h3=>U8 h1 t ht σ h3
theorem TG (i:Nat) (L:List Tok) (n:Nat):PC 124 [.gp i 0,.d (.int .i64 2)] i L n F4 (fun x=>.d (.str x)):=fJ i L n 2 (by decide)
theorem nP (i:Nat) (L:List Tok) (n:Nat) {T:PM TE} (hT:PC 168 [.gp i 0] i L n T teA) (k:Int):PC 184 [.gp i 0,.d (.int .i64 k)] i L n (Si k T) teA:=by
 intro σ s0 g0 h0 l0 b0
 refine PH (by simp) ?_
 rw [BP]
 simp only [Si,run_bind,run_pure,teA,TE.A3,AG,AH]
 (have c0:=(DN i L n [40] (by decide)) σ s0 g0 h0 (by omega) b0;have h1:=h0.run (PM.exp [40] (by decide));have l1:=PM.le (PM.exp [40] (by decide)) h0.wf;generalize (PM.exp [40] (by decide)).run s0=y at c0 h1 l1 ⊢;obtain ⟨x0,s1⟩:=y;simp only at c0 h1 l1 ⊢;have b1:(σ.AK i (psA L s1)).blk i=some (psA L s1):=(by rw [AO,if_pos rfl]))
 (have c1:=hT (σ.AK i (psA L s1)) s1 g0 h1 (by omega) b1;rw [A2] at c1;have h2:=h1.run (T);have l2:=PM.le (T) h1.wf;generalize (T).run s1=y at c1 h2 l2 ⊢;obtain ⟨x1,s2⟩:=y;simp only at c1 h2 l2 ⊢;have b2:(σ.AK i (psA L s2)).blk i=some (psA L s2):=(by rw [AO,if_pos rfl]);obtain ⟨k0,n0,a0⟩:=x1;simp only [teA,TE.A3,AG,AH] at c1 ⊢)
 (have c2:=(DN i L n [41] (by decide)) (σ.AK i (psA L s2)) s2 g0 h2 (by omega) b2;rw [A2] at c2;have h3:=h2.run (PM.exp [41] (by decide));have l3:=PM.le (PM.exp [41] (by decide)) h2.wf;generalize (PM.exp [41] (by decide)).run s2=y at c2 h3 l3 ⊢;obtain ⟨x2,s3⟩:=y;simp only at c2 h3 l3 ⊢;have b3:(σ.AK i (psA L s3)).blk i=some (psA L s3):=(by rw [AO,if_pos rfl]))
 (repeat' (first|refine Run.ct rfl ?_|((first|refine Run.reg mixed ?_|refine Run.AJ ?_|refine Run.A9 Il (AN.le_refl _) ?_|(refine AI.upd c0 ?_)|(refine AI.upd c1 ?_)|(refine AI.upd c2 ?_))<;>try simp -implicitDefEqProofs only [go_sem])|fail))
theorem TE.iB (t:TE):t.enc.length=3:=by cases t;rw [TE.A3];rfl
theorem N1 {α:Type} {enc:α→List DV} (z:Nat) (l:List α) (h:∀x,(enc x).length=z):∀r∈l.map enc,r.length=z:=fun r hr=>by
 obtain ⟨x,_,rfl⟩:=Iw.1 hr
 exact h x
theorem Yi:Aw Tryz.prog 168=true:=by kernel_rfl
set_option maxHeartbeats 4000000 in
theorem wP (i:Nat) (L:List Tok):∀n,PC 168 [.gp i 0] i L n (GA n) teA
 |0=>fun σ s _ h1 h2 h3=>by have:=Aj.2 h1.wf.ne;omega
 |n+1=>by
  have ih:=wP i L n
  intro σ s0 g0 h0 l0 b0
  refine Tf (by simp) ?_
  rw [Ax]
  have hpk:=Q5 h0 σ b0
  rw [GA]
  simp only [jH,Hb]
  cases hk1:s0.hd.kind==1 with
  |true=>
   simp only [if_true,run_bind,run_pure,teA,TE.A3,AG,AH]
   (have c0:=(Q3 i L (n+1)) σ s0 g0 h0 (by omega) b0;have h1:=h0.run (Fp);have l1:=PM.le (Fp) h0.wf;generalize (Fp).run s0=y at c0 h1 l1 ⊢;obtain ⟨x0,s1⟩:=y;simp only at c0 h1 l1 ⊢;have b1:(σ.AK i (psA L s1)).blk i=some (psA L s1):=(by rw [AO,if_pos rfl]))
   (repeat' (first|refine Run.ct rfl ?_|((first|refine Run.reg mixed ?_|refine Run.AJ ?_|refine Run.A9 BW (AN.le_refl _) ?_|(refine AI.upd c0 ?_)|refine AI.det (hpk) ?_)<;>try simp -implicitDefEqProofs only [hk1,go_sem])|fail))
  |false=>
  cases hk2:s0.hd.kind==2 with
  |true=>
   simp only [if_true,if_false,AU,run_bind,run_pure,teA,TE.A3,AG,AH]
   (have c0:=(TG i L (n+1)) σ s0 g0 h0 (by omega) b0;have h1:=h0.run (F4);have l1:=PM.le (F4) h0.wf;generalize (F4).run s0=y at c0 h1 l1 ⊢;obtain ⟨x0,s1⟩:=y;simp only at c0 h1 l1 ⊢;have b1:(σ.AK i (psA L s1)).blk i=some (psA L s1):=(by rw [AO,if_pos rfl]))
   (have c1:=(Ja i L n Yi ih).pc (σ.AK i (psA L s1)) s1 g0 h1 (by omega) b1;rw [A2] at c1;have h2:=h1.run (I6 (GA n));have l2:=PM.le (I6 (GA n)) h1.wf;generalize (I6 (GA n)).run s1=y at c1 h2 l2 ⊢;obtain ⟨x1,s2⟩:=y;simp only at c1 h2 l2 ⊢;have b2:(σ.AK i (psA L s2)).blk i=some (psA L s2):=(by rw [AO,if_pos rfl]))
   (repeat' (first|refine Run.ct rfl ?_|((first|refine Run.reg mixed ?_|refine Run.AJ ?_|refine Run.A9 BW (AN.le_refl _) ?_|(refine AI.upd c0 ?_)|(refine AI.upd c1 ?_)|refine AI.det (hpk) ?_)<;>try simp -implicitDefEqProofs only [hk1,hk2,go_sem])|fail))
  |false=>
  simp only [if_false,AU]
  cases t1:s0.hd.text==[105,110,116] with
  |true=>
   simp only [if_true,run_pure,teA,TE.A3,AG,AH]
   (have c0:=DM h0 [105,110,116] σ b0 t1;have h1:=h0.adv (t:=[105,110,116]) (by decide) t1;have l1:=B0 h0.wf;generalize s0.adv=s1 at c0 h1 l1 ⊢;have b1:(σ.AK i (psA L s1)).blk i=some (psA L s1):=by rw [AO,if_pos rfl])
   (repeat' (first|refine Run.ct rfl ?_|((first|refine Run.reg mixed ?_|refine Run.AJ ?_|refine Run.A9 BW (AN.le_refl _) ?_|(refine AI.upd c0 ?_)|refine AI.det (hpk) ?_)<;>try simp -implicitDefEqProofs only [hk1,hk2,go_sem])|fail))
  |false=>
  have f1:=DL h0 _ σ b0 t1
  cases t2:s0.hd.text==[98,111,111,108] with
  |true=>
   simp only [if_true,if_false,AU,run_pure,teA,TE.A3,AG,AH]
   (have c0:=DM h0 [98,111,111,108] σ b0 t2;have h1:=h0.adv (t:=[98,111,111,108]) (by decide) t2;have l1:=B0 h0.wf;generalize s0.adv=s1 at c0 h1 l1 ⊢;have b1:(σ.AK i (psA L s1)).blk i=some (psA L s1):=by rw [AO,if_pos rfl])
   (repeat' (first|refine Run.ct rfl ?_|((first|refine Run.reg mixed ?_|refine Run.AJ ?_|refine Run.A9 BW (AN.le_refl _) ?_|(refine AI.upd c0 ?_)|refine AI.det (hpk) ?_|refine AI.det (f1) ?_)<;>try simp -implicitDefEqProofs only [hk1,hk2,go_sem])|fail))
  |false=>
  have f2:=DL h0 _ σ b0 t2
  cases t3:s0.hd.text==[117,110,105,116] with
  |true=>
   simp only [if_true,if_false,AU,run_pure,teA,TE.A3,AG,AH]
   (have c0:=DM h0 [117,110,105,116] σ b0 t3;have h1:=h0.adv (t:=[117,110,105,116]) (by decide) t3;have l1:=B0 h0.wf;generalize s0.adv=s1 at c0 h1 l1 ⊢;have b1:(σ.AK i (psA L s1)).blk i=some (psA L s1):=by rw [AO,if_pos rfl])
   (repeat' (first|refine Run.ct rfl ?_|((first|refine Run.reg mixed ?_|refine Run.AJ ?_|refine Run.A9 BW (AN.le_refl _) ?_|(refine AI.upd c0 ?_)|refine AI.det (hpk) ?_|refine AI.det (f1) ?_|refine AI.det (f2) ?_)<;>try simp -implicitDefEqProofs only [hk1,hk2,go_sem])|fail))
  |false=>
  have f3:=DL h0 _ σ b0 t3
  cases t4:s0.hd.text==[97,114,114,97,121] with
  |true=>
   simp only [if_true,if_false,AU]
   (have c0:=DM h0 [97,114,114,97,121] σ b0 t4;have h1:=h0.adv (t:=[97,114,114,97,121]) (by decide) t4;have l1:=B0 h0.wf;generalize s0.adv=s1 at c0 h1 l1 ⊢;have b1:(σ.AK i (psA L s1)).blk i=some (psA L s1):=by rw [AO,if_pos rfl])
   (have c1:=(nP i L n ih 7) (σ.AK i (psA L s1)) s1 g0 h1 (by omega) b1;rw [A2] at c1;have h2:=h1.run (Si 7 (GA n));have l2:=PM.le (Si 7 (GA n)) h1.wf;generalize (Si 7 (GA n)).run s1=y at c1 h2 l2 ⊢;obtain ⟨x1,s2⟩:=y;simp only at c1 h2 l2 ⊢;have b2:(σ.AK i (psA L s2)).blk i=some (psA L s2):=(by rw [AO,if_pos rfl]);obtain ⟨k0,n0,a0⟩:=x1;simp only [teA,TE.A3,AG,AH] at c1 ⊢)
   (repeat' (first|refine Run.ct rfl ?_|((first|refine Run.reg mixed ?_|refine Run.AJ ?_|refine Run.A9 BW (AN.le_refl _) ?_|(refine AI.upd c0 ?_)|(refine AI.upd c1 ?_)|refine AI.det (hpk) ?_|refine AI.det (f1) ?_|refine AI.det (f2) ?_|refine AI.det (f3) ?_)<;>try simp -implicitDefEqProofs only [hk1,hk2,go_sem])|fail))
  |false=>
  have f4:=DL h0 _ σ b0 t4
  cases t5:s0.hd.text==[114,101,102] with
  |true=>
   simp only [if_true,if_false,AU]
   (have c0:=DM h0 [114,101,102] σ b0 t5;have h1:=h0.adv (t:=[114,101,102]) (by decide) t5;have l1:=B0 h0.wf;generalize s0.adv=s1 at c0 h1 l1 ⊢;have b1:(σ.AK i (psA L s1)).blk i=some (psA L s1):=by rw [AO,if_pos rfl])
   (have c1:=(nP i L n ih 8) (σ.AK i (psA L s1)) s1 g0 h1 (by omega) b1;rw [A2] at c1;have h2:=h1.run (Si 8 (GA n));have l2:=PM.le (Si 8 (GA n)) h1.wf;generalize (Si 8 (GA n)).run s1=y at c1 h2 l2 ⊢;obtain ⟨x1,s2⟩:=y;simp only at c1 h2 l2 ⊢;have b2:(σ.AK i (psA L s2)).blk i=some (psA L s2):=(by rw [AO,if_pos rfl]);obtain ⟨k0,n0,a0⟩:=x1;simp only [teA,TE.A3,AG,AH] at c1 ⊢)
   (repeat' (first|refine Run.ct rfl ?_|((first|refine Run.reg mixed ?_|refine Run.AJ ?_|refine Run.A9 BW (AN.le_refl _) ?_|(refine AI.upd c0 ?_)|(refine AI.upd c1 ?_)|refine AI.det (hpk) ?_|refine AI.det (f1) ?_|refine AI.det (f2) ?_|refine AI.det (f3) ?_|refine AI.det (f4) ?_)<;>try simp -implicitDefEqProofs only [hk1,hk2,go_sem])|fail))
  |false=>
  have f5:=DL h0 _ σ b0 t5
  cases t6:s0.hd.text==[40] with
  |true=>
   simp only [if_true,if_false,AU,run_bind,run_pure,teA,TE.A3,AG,AH]
   (have c0:=DM h0 [40] σ b0 t6;have h1:=h0.adv (t:=[40]) (by decide) t6;have l1:=B0 h0.wf;generalize s0.adv=s1 at c0 h1 l1 ⊢;have b1:(σ.AK i (psA L s1)).blk i=some (psA L s1):=by rw [AO,if_pos rfl])
   (have c1:=ih (σ.AK i (psA L s1)) s1 g0 h1 (by omega) b1;rw [A2] at c1;have h2:=h1.run (GA n);have l2:=PM.le (GA n) h1.wf;generalize (GA n).run s1=y at c1 h2 l2 ⊢;obtain ⟨x1,s2⟩:=y;simp only at c1 h2 l2 ⊢;have b2:(σ.AK i (psA L s2)).blk i=some (psA L s2):=(by rw [AO,if_pos rfl]);obtain ⟨k0,n0,a0⟩:=x1;simp only [teA,TE.A3,AG,AH] at c1 ⊢)
   (have c2:=(DN i L n [44] (by decide)) (σ.AK i (psA L s2)) s2 g0 h2 (by omega) b2;rw [A2] at c2;have h3:=h2.run (PM.exp [44] (by decide));have l3:=PM.le (PM.exp [44] (by decide)) h2.wf;generalize (PM.exp [44] (by decide)).run s2=y at c2 h3 l3 ⊢;obtain ⟨x2,s3⟩:=y;simp only at c2 h3 l3 ⊢;have b3:(σ.AK i (psA L s3)).blk i=some (psA L s3):=(by rw [AO,if_pos rfl]))
   (have d3:=fun tk:Nat=>(Em i L n Yi ih).pc ((σ.AK i (psA L s3)).Da tk) s3 g0 h3 (by omega) (by rw [GO];exact b3);have c3:=(Em i L n Yi ih).pc (σ.AK i (psA L s3)) s3 g0 h3 (by omega) b3;rw [A2] at c3;have h4:=h3.run (listed (GA n));have l4:=PM.le (listed (GA n)) h3.wf;have n3:=Q1 (read:=GA n) h3.wf;generalize (listed (GA n)).run s3=y at c3 d3 h4 l4 n3 ⊢;obtain ⟨x3,s4⟩:=y;simp only at c3 d3 h4 l4 n3 ⊢;have q3:=h0.suf.length_le;have q3':=h0.len)
   (repeat' (first|refine Run.ct rfl ?_|((first|refine Run.reg mixed ?_|refine Run.AJ ?_|(refine AI.upd c0 ?_)|(refine AI.upd c1 ?_)|(refine AI.upd c2 ?_)|refine AI.det (hpk) ?_|refine AI.det (f1) ?_|refine AI.det (f2) ?_|refine AI.det (f3) ?_|refine AI.det (f4) ?_|refine AI.det (f5) ?_)<;>try simp -implicitDefEqProofs only [hk1,hk2,go_sem])|fail))
   refine Run.FA mixed ?_;simp -implicitDefEqProofs only [go_sem]
   refine ⟨?_,?_⟩
   · refine Ia.own rfl (by decide) (fun tk htk=>?_);simp -implicitDefEqProofs only [go_sem]
     refine AI.upd (d3 tk) ?_;simp -implicitDefEqProofs only [go_sem]
     (apply LS.tok (LS.yH htk s4);rfl;exact (N1 _ _ TE.iB);(simp only [AE,AB,AD];omega);decide;intro v2 τ2 ho);simp -implicitDefEqProofs only [ho.own.BJ,ho.own.As,ho.own.cells,ho.own.cell,ho.own.plain,ho.own.dv,if_true,go_sem]
     (repeat' (first|refine Run.ct rfl ?_|((first|refine Run.reg mixed ?_|refine Run.AJ ?_|(refine Run.A9 BW ho.le ?_))<;>try simp -implicitDefEqProofs only [ho.own.BJ,ho.own.As,ho.own.cells,ho.own.cell,ho.own.plain,ho.own.dv,if_true,go_sem])|fail))
   · refine AI.upd c3 ?_;simp -implicitDefEqProofs only [go_sem]
     refine Ia.own rfl (by decide) (fun tk htk=>?_);simp -implicitDefEqProofs only [go_sem]
     (apply LS.tok (LS.yG htk);rfl;exact (N1 _ _ TE.iB);(simp only [AE,AB,AD];omega);decide;intro v2 τ2 ho);simp -implicitDefEqProofs only [ho.own.BJ,ho.own.As,ho.own.cells,ho.own.cell,ho.own.plain,ho.own.dv,if_true,go_sem]
     (repeat' (first|refine Run.ct rfl ?_|((first|refine Run.reg mixed ?_|refine Run.AJ ?_|(refine Run.A9 BW ho.le ?_))<;>try simp -implicitDefEqProofs only [ho.own.BJ,ho.own.As,ho.own.cells,ho.own.cell,ho.own.plain,ho.own.dv,if_true,go_sem])|fail))
  |false=>
  have f6:=DL h0 _ σ b0 t6
  cases t7:s0.hd.text==[102,110] with
  |true=>
   simp only [if_true,if_false,AU,run_bind,run_pure,teA,TE.A3,AG,AH]
   (have c0:=DM h0 [102,110] σ b0 t7;have h1:=h0.adv (t:=[102,110]) (by decide) t7;have l1:=B0 h0.wf;generalize s0.adv=s1 at c0 h1 l1 ⊢;have b1:(σ.AK i (psA L s1)).blk i=some (psA L s1):=by rw [AO,if_pos rfl])
   (have c1:=(DN i L n [40] (by decide)) (σ.AK i (psA L s1)) s1 g0 h1 (by omega) b1;rw [A2] at c1;have h2:=h1.run (PM.exp [40] (by decide));have l2:=PM.le (PM.exp [40] (by decide)) h1.wf;generalize (PM.exp [40] (by decide)).run s1=y at c1 h2 l2 ⊢;obtain ⟨x1,s2⟩:=y;simp only at c1 h2 l2 ⊢;have b2:(σ.AK i (psA L s2)).blk i=some (psA L s2):=(by rw [AO,if_pos rfl]))
   have c2:=QB i L n Yi ih (σ.AK i (psA L s2)) s2 g0 h2 (by omega) b2
   rw [A2] at c2
   have h3:=h2.run (closed (GA n))
   have l3:=PM.le (closed (GA n)) h2.wf
   have n2:=U7 (read:=GA n) h2.wf
   have q2:=h0.suf.length_le
   have q3:=h0.len
   generalize (closed (GA n)).run s2=y at c2 h3 l3 n2 ⊢
   obtain ⟨x2,s3⟩:=y
   simp only at c2 h3 l3 n2 ⊢
   (repeat' (first|refine Run.ct rfl ?_|((first|refine Run.reg mixed ?_|refine Run.AJ ?_|(refine AI.upd c0 ?_)|(refine AI.upd c1 ?_)|(refine AI.mk rfl c2 ?_;intro v1 τ1 ho1)|refine AI.det (hpk) ?_|refine AI.det (f1) ?_|refine AI.det (f2) ?_|refine AI.det (f3) ?_|refine AI.det (f4) ?_|refine AI.det (f5) ?_|refine AI.det (f6) ?_)<;>try simp -implicitDefEqProofs only [hk1,hk2,go_sem])|fail))
   have hl1:=LS.of ho1
   have e3:=U8 h3 [45,62] (by decide) τ1 hl1.blk
   have hl2:=hl1.step ((PM.exp [45,62] (by decide)).run s3).2
   have h4:=h3.run (PM.exp [45,62] (by decide))
   have l4:=PM.le (PM.exp [45,62] (by decide)) h3.wf
   generalize (PM.exp [45,62] (by decide)).run s3=y at e3 hl2 h4 l4 ⊢
   obtain ⟨x3,s4⟩:=y
   simp only at e3 hl2 h4 l4 ⊢
   have c4:=ih (τ1.AK i (psA L s4)) s4 (hl1.gt g0) h4 (by omega) hl2.blk
   rw [A2] at c4
   have hl3:=hl1.step ((GA n).run s4).2
   generalize (GA n).run s4=y at c4 hl3 ⊢
   obtain ⟨x4,s5⟩:=y
   obtain ⟨k0,n0,a0⟩:=x4
   simp only [teA,TE.A3,AG,AH] at c4 hl3 ⊢
   (repeat' (first|refine Run.ct rfl ?_|((first|refine Run.reg mixed ?_|refine Run.AJ ?_|(refine AI.upd e3 ?_)|(refine AI.upd c4 ?_))<;>try simp -implicitDefEqProofs only [ho1.BJ,go_sem])|fail))
   refine hl3.tok rfl (by simp) (by simp;omega) (by decide) (fun v2 τ2 ho=>?_);simp -implicitDefEqProofs only [ho.own.BJ,ho.own.As,ho.own.cells,ho.own.cell,ho.own.plain,ho.own.dv,if_true,go_sem]
   (repeat' (first|refine Run.ct rfl ?_|((first|refine Run.reg mixed ?_|refine Run.AJ ?_|(refine Run.A9 BW ho.le ?_))<;>try simp -implicitDefEqProofs only [ho.own.BJ,ho.own.As,ho.own.cells,ho.own.cell,ho.own.plain,ho.own.dv,if_true,Bg,AG,AH,TE.A3,go_sem])|fail))
  |false=>
  have f7:=DL h0 _ σ b0 t7
  simp only [if_false,AU,wA,teA,TE.A3,AG,AH]
  (repeat' (first|refine Run.ct rfl ?_|((first|refine Run.reg mixed ?_|refine Run.AJ ?_|refine Run.A9 BW (AN.le_refl _) ?_|(refine AI.upd (V0 h0 σ b0) ?_)|refine AI.det (hpk) ?_|refine AI.det (f1) ?_|refine AI.det (f2) ?_|refine AI.det (f3) ?_|refine AI.det (f4) ?_|refine AI.det (f5) ?_|refine AI.det (f6) ?_|refine AI.det (f7) ?_)<;>try simp -implicitDefEqProofs only [hk1,hk2,go_sem])|fail))
end Go.Ab
namespace Go.Ab
open Go.Proofs
theorem fS (z:UInt8):CT GZ z=(Mg z.toNat||Kk z.toNat||Er z.toNat||((z.toNat:Int)==95)):=rfl
theorem ZS (s:Str) (i:Nat) (x:UInt8) (hx:s[i]?=some x) (hw:CT GZ x=true) (hl:s.length≤16384) (σ1:AN) (a5 a7:AV) (K:AV→AN→Prop) (k:List CI)
 (hk:Run G0 K k (put 0 (.d (.str s)) (put 5 a5 (put 6 (.d (.int .i64 i)) (put 7 a7 (put 8 (.d (.int .i64 (((s.drop i).takeWhile (CT GZ)).length:Nat))) U))))) E σ1):
 Run G0 K (.again Tv::.blk 5::k) (put 0 (.d (.str s)) (put 5 a5 (put 6 (.d (.int .i64 i)) (put 7 a7 (put 8 (.d (.int .i64 1)) U))))) E σ1:=by
 refine Run.B6 ((fun (a0:AV) (a5:AV) (a6:AV) (a7:AV)=>fun (m:Nat)=>put 0 a0 (put 5 a5 (put 6 a6 (put 7 a7 (put 8 (.d (.int .i64 m)) U))))) _ _ _ _) (fun _=>E) (fun _=>σ1) (fun m=>1≤m∧i+m≤s.length∧∀q b,q < m→(s.drop i)[q]?=some b→CT GZ b=true) (fun m=>s.length - m) ?_ 1 ⟨by omega,?_,?_⟩
 · rintro m ⟨h1,hm,hall⟩ ih
   have hw0:=wrap_add (show i+m≤9000000000000000000 by omega)
   have hw1:=BV (show m+1≤9000000000000000000 by omega)
   have hend:(∀b,(s.drop i)[m]?=some b→CT GZ b=false)→((s.drop i).takeWhile (CT GZ)).length=m:=fun h=>by
    rw [FB hall (by simp;omega) h];simp;omega
   by_cases hlt:i+m < s.length
   · obtain ⟨z,hz⟩:=Bu hlt
     have hz2:(s.drop i)[m]?=some z:=by rw [BO];exact hz
     have hstep:CT GZ z=true→∀q b,q < m+1→(s.drop i)[q]?=some b→CT GZ b=true:=fun hc q b hq hb=>by
      rcases Co q m with h2|h2
      · exact hall q b h2 hb
      · have:q=m:=by omega
        subst this;rw [hz2] at hb;cases hb;exact hc
     (repeat' (first|refine Run.ct rfl ?_|((first|refine Run.reg mixed ?_|refine Run.AJ ?_|refine AI.det (Ir _ _) ?_|refine AI.det (It _ _) ?_|refine AI.det (HY _ _) ?_|(refine GL rfl (fun h=>?_) (fun h=>?_)<;>try (cases h;done)))<;>try simp -implicitDefEqProofs only [hw0,hw1,BQ hlt,DJ hz,go_sem])|(refine ⟨fun h=>?_,fun h=>?_⟩<;>first|(cases h;done)|try simp only [h])|fail))
     all_goals first
      |exact ih (m+1) ⟨by omega,by omega,hstep (by simp_all [fS])⟩ (by omega)
      |(rw [hend (fun b hb=>by rw [hz2] at hb;cases hb;simp_all [fS])] at hk;refine Run.PX [0,5,6,7,8] ?_;simp -implicitDefEqProofs only [go_sem];exact hk)
   · (repeat' (first|refine Run.ct rfl ?_|((first|refine Run.reg mixed ?_|refine Run.AJ ?_)<;>try simp -implicitDefEqProofs only [hw0,DA hlt,go_sem])|fail))
     rw [hend (fun b hb=>by rw [BO,Jm (by omega)] at hb;cases hb)] at hk
     refine Run.PX [0,5,6,7,8] ?_;simp -implicitDefEqProofs only [go_sem]
     exact hk
 · have:=(Ad.1 hx).1;omega
 · intro q b hq hb
   have:q=0:=by omega
   subst this
   rw [BO,Eb,hx] at hb;cases hb;exact hw
theorem ZT (s:Str) (i:Nat) (x:UInt8) (hx:s[i]?=some x) (hw:CT Er x=true) (hl:s.length≤16384) (σ1:AN) (a5 a7:AV) (K:AV→AN→Prop) (k:List CI)
 (hk:Run G0 K k (put 0 (.d (.str s)) (put 5 a5 (put 6 (.d (.int .i64 i)) (put 7 a7 (put 8 (.d (.int .i64 (((s.drop i).takeWhile (CT Er)).length:Nat))) U))))) E σ1):
 Run G0 K (.again Tw::.blk 7::k) (put 0 (.d (.str s)) (put 5 a5 (put 6 (.d (.int .i64 i)) (put 7 a7 (put 8 (.d (.int .i64 1)) U))))) E σ1:=by
 refine Run.B6 ((fun (a0:AV) (a5:AV) (a6:AV) (a7:AV)=>fun (m:Nat)=>put 0 a0 (put 5 a5 (put 6 a6 (put 7 a7 (put 8 (.d (.int .i64 m)) U))))) _ _ _ _) (fun _=>E) (fun _=>σ1) (fun m=>1≤m∧i+m≤s.length∧∀q b,q < m→(s.drop i)[q]?=some b→CT Er b=true) (fun m=>s.length - m) ?_ 1 ⟨by omega,?_,?_⟩
 · rintro m ⟨h1,hm,hall⟩ ih
   have hw0:=wrap_add (show i+m≤9000000000000000000 by omega)
   have hw1:=BV (show m+1≤9000000000000000000 by omega)
   have hend:(∀b,(s.drop i)[m]?=some b→CT Er b=false)→((s.drop i).takeWhile (CT Er)).length=m:=fun h=>by
    rw [FB hall (by simp;omega) h];simp;omega
   by_cases hlt:i+m < s.length
   · obtain ⟨z,hz⟩:=Bu hlt
     have hz2:(s.drop i)[m]?=some z:=by rw [BO];exact hz
     have hstep:CT Er z=true→∀q b,q < m+1→(s.drop i)[q]?=some b→CT Er b=true:=fun hc q b hq hb=>by
      rcases Co q m with h2|h2
      · exact hall q b h2 hb
      · have:q=m:=by omega
        subst this;rw [hz2] at hb;cases hb;exact hc
     cases hd:Er z.toNat with
     |true=>
      (repeat' (first|refine Run.ct rfl ?_|((first|refine Run.reg mixed ?_|refine Run.AJ ?_|refine AI.det (HY _ _) ?_)<;>try simp -implicitDefEqProofs only [hw0,hw1,BQ hlt,DJ hz,hd,go_sem])|fail))
      exact ih (m+1) ⟨by omega,by omega,hstep hd⟩ (by omega)
     |false=>
      (repeat' (first|refine Run.ct rfl ?_|((first|refine Run.reg mixed ?_|refine Run.AJ ?_|refine AI.det (HY _ _) ?_)<;>try simp -implicitDefEqProofs only [hw0,hw1,BQ hlt,DJ hz,hd,go_sem])|fail))
      rw [hend (fun b hb=>by rw [hz2] at hb;cases hb;exact hd)] at hk
      refine Run.PX [0,5,6,7,8] ?_;simp -implicitDefEqProofs only [go_sem]
      exact hk
   · (repeat' (first|refine Run.ct rfl ?_|((first|refine Run.reg mixed ?_|refine Run.AJ ?_)<;>try simp -implicitDefEqProofs only [hw0,DA hlt,go_sem])|fail))
     rw [hend (fun b hb=>by rw [BO,Jm (by omega)] at hb;cases hb)] at hk
     refine Run.PX [0,5,6,7,8] ?_;simp -implicitDefEqProofs only [go_sem]
     exact hk
 · have:=(Ad.1 hx).1;omega
 · intro q b hq hb
   have:q=0:=by omega
   subst this
   rw [BO,Eb,hx] at hb;cases hb;exact hw
theorem jM {c:UInt8→Bool} (s:Str) (i:Nat) (hi:i≤s.length):Sz (.d (.str s)) (some (.d (.int .i64 (i:Int)))) (some (.d (.int .i64 ((i+((s.drop i).takeWhile c).length:Nat):Int))))=some (.d (.str ((s.drop i).takeWhile c))):=by
 have h:=Ep c (s.drop i)
 rw [Ao] at h
 rw [wF (by omega) (by omega),Ko,Nat.add_sub_cancel_left]
 congr 3
 exact (List.prefix_iff_eq_take.1 (List.takeWhile_prefix c)).symm
theorem wH (s:Str) (i n:Nat) (hi:i≤s.length) (hn:n≤(s.drop i).length):Sz (.d (.str s)) (some (.d (.int .i64 (i:Int)))) (some (.d (.int .i64 ((i+n:Nat):Int))))=some (.d (.str ((s.drop i).take n))):=by
 rw [Ao] at hn
 rw [wF (by omega) (by omega),Ko,Nat.add_sub_cancel_left]
theorem jJ:∀(b:UInt8) (r:Str),GK (b::r)≤(b::r).length
 |b,[]=>by simp only [GK,bD];split<;>simp
 |b,c::r=>by
  simp only [GK]
  cases bE b c
  · simp only [bD,AU,if_false];split<;>simp
  · simp
set_option maxHeartbeats 4000000 in
theorem iS (s:Str) (σ:AN):AQ Tryz.prog 29 [.d (.str s)] σ (fun v σ'=>v=Hq (BN s)∧σ'=σ):=by
 refine kY (by simp) ?_
 rw [Ax]
 by_cases hl:s.length>16384
 · (repeat' (first|refine Run.ct rfl ?_|((first|refine Run.reg mixed ?_|refine Run.AJ ?_|refine Run.A9 HK (AN.le_refl _) ?_)<;>try simp -implicitDefEqProofs only [tT,decide_eq_true hl,go_sem])|fail))
   simp [Hq,BN,hl]
 · (repeat' (first|refine Run.ct rfl ?_|((first|refine Run.reg mixed ?_|refine Run.AJ ?_)<;>try simp -implicitDefEqProofs only [tT,decide_eq_false hl,go_sem])|fail))
   refine Run.B3 ?_
   refine Run.B6 ((fun (a0:AV)=>fun (y:Nat×AV×AN)=>put 0 a0 (put 5 (y.2.1) (put 6 (.d (.int .i64 y.1)) U))) _) (fun _=>E) (fun y=>y.2.2) (fun y=>y.1≤s.length∧∃acc n,D8 σ 58 3 (acc.map Tok.enc) y.2.1 y.2.2∧acc.length≤y.1∧s.length - y.1 < n∧BN s=D9 n (s.drop y.1) y.1 acc) (fun y=>s.length - y.1) ?_ (0,.AX,σ) ⟨by simp,[],s.length+1,D8.nil _ _ _,by simp,by simp,by simp [BN,hl]⟩
   rintro ⟨i,v,σ1⟩ ⟨hi,acc,n,ho,hac,hn,hs⟩ ih
   simp only at hi ho hac hn hs
   obtain ⟨n,rfl⟩:∃m,n=m+1:=⟨n - 1,by omega⟩
   by_cases hlt:i < s.length
   · obtain ⟨x,hx⟩:=Bu hlt
     rw [El hx,D9] at hs
     have hw1:=BV (show i+1≤9000000000000000000 by omega)
     have hsl:(x::s.drop (i+1)).length=s.length - i:=by simp;omega
     cases hb:U1 x.toNat with
     |true=>
      rw [hb,if_pos rfl] at hs
      (repeat' (first|refine Run.ct rfl ?_|((first|refine Run.reg mixed ?_|refine Run.AJ ?_|(refine GL rfl (fun h=>?_) (fun h=>?_)<;>try (cases h;done)))<;>try simp -implicitDefEqProofs only [BQ hlt,DJ hx,hw1,go_sem])|(refine ⟨fun h=>?_,fun h=>?_⟩<;>first|(cases h;done)|try simp only [h])|fail))
      all_goals first
       |exact ih (i+1,v,σ1) ⟨hlt,acc,n,ho,by simp only;omega,by simp only;omega,hs⟩ (by simp only;omega)
       |(exfalso;simp_all [U1];done)
     |false=>
      rw [hb,if_neg (by simp)] at hs
      simp only [U1,EA] at hb
      obtain ⟨⟨⟨h9,h10⟩,h13⟩,h32⟩:=hb
      cases hc:(x==35) with
      |true=>
       rw [hc,if_pos rfl] at hs
       (repeat' (first|refine Run.ct rfl ?_|((first|refine Run.reg mixed ?_|refine Run.AJ ?_)<;>try simp -implicitDefEqProofs only [BQ hlt,DJ hx,h9,h10,h13,h32,Qn,hc,go_sem])|fail))
       refine Run.PX [0,5,6] ?_;simp -implicitDefEqProofs only [go_sem]
       refine Run.B3 ?_
       refine Run.B6 ((fun (a0:AV) (a5:AV)=>fun (j:Nat)=>put 0 a0 (put 5 a5 (put 6 (.d (.int .i64 j)) U))) _ _) (fun _=>E) (fun _=>σ1) (fun j=>i≤j∧j≤s.length∧∀q b,q < j - i→(s.drop i)[q]?=some b→(!(b==10))=true) (fun j=>s.length - j) ?_ i ⟨A8 i,hi,by intro q b hq;omega⟩
       rintro j ⟨hij,hj,hall⟩ ih2
       have hw2:=BV (show j+1≤9000000000000000000 by omega)
       have hend:(∀z,s[j]?=some z→(z==10)=true)→j≠i∧BN s=D9 n (s.drop j) j acc:=fun hz=>by
        have hji:j≠i:=fun e=>by
         subst e
         have h10:=hz x hx
         simp only [beq_iff_eq] at hc h10
         rw [hc] at h10;exact absurd h10 (by decide)
        have hk:cmt (x::s.drop (i+1))=j - i:=by
         rw [← El hx,cmt,FB hall (by simp;omega) (fun b hb=>by
          rw [BO,show i+(j - i)=j by omega] at hb
          simp [hz b hb])]
         simp;omega
        rw [hk,← El hx,CN,show i+(j - i)=j by omega] at hs
        exact ⟨hji,hs⟩
       by_cases hjl:j < s.length
       · obtain ⟨z,hz⟩:=Bu hjl
         have hz2:(s.drop i)[j - i]?=some z:=by rw [BO,show i+(j - i)=j by omega];exact hz
         cases h10:(z==10) with
         |true=>
          obtain ⟨hji,hs⟩:=hend (fun z' hz'=>by rw [hz] at hz';cases hz';exact h10)
          (repeat' (first|refine Run.ct rfl ?_|((first|refine Run.reg mixed ?_|refine Run.AJ ?_)<;>try simp -implicitDefEqProofs only [BQ hjl,DJ hz,fM,bne,h10,go_sem])|fail))
          refine Run.PX [0,5,6] ?_;simp -implicitDefEqProofs only [go_sem]
          exact ih (j,v,σ1) ⟨hj,acc,n,ho,by simp only;omega,by simp only;omega,hs⟩ (by simp only;omega)
         |false=>
          (repeat' (first|refine Run.ct rfl ?_|((first|refine Run.reg mixed ?_|refine Run.AJ ?_)<;>try simp -implicitDefEqProofs only [BQ hjl,DJ hz,fM,bne,h10,hw2,go_sem])|fail))
          refine ih2 (j+1) ⟨by omega,hjl,fun q b hq hb=>?_⟩ (by omega)
          rcases Co q (j - i) with h2|h2
          · exact hall q b h2 hb
          · have:q=j - i:=by omega
            subst this
            rw [hz2] at hb;cases hb;simp [h10]
       · obtain ⟨hji,hs⟩:=hend (fun z hz=>by rw [Jm (by omega)] at hz;cases hz)
         (repeat' (first|refine Run.ct rfl ?_|((first|refine Run.reg mixed ?_|refine Run.AJ ?_)<;>try simp -implicitDefEqProofs only [DA hjl,go_sem])|fail))
         refine Run.PX [0,5,6] ?_;simp -implicitDefEqProofs only [go_sem]
         exact ih (j,v,σ1) ⟨hj,acc,n,ho,by simp only;omega,by simp only;omega,hs⟩ (by simp only;omega)
      |false=>
       rw [hc,if_neg (by simp)] at hs
       have hld:s.drop i=x::s.drop (i+1):=El hx
       have hss:Sz (.d (.str s)) (some (.d (.int .i64 (i:Int)))) none=some (.d (.str (x::s.drop (i+1)))):=by rw [wG hi,hld]
       -- behind a token
       have next:∀(k:Int) (t:Str) (v2:AV) (σ2:AN),De (x::s.drop (i+1))= .ok (k,t)→D8 σ 58 3 (acc.map Tok.enc++[[.int .i64 k,.str t,.int .i64 i]]) v2 σ2→
        1≤t.length∧i+t.length≤s.length∧(i+t.length≤s.length∧∃acc n,D8 σ 58 3 (acc.map Tok.enc) v2 σ2∧acc.length≤i+t.length∧s.length - (i+t.length) < n∧BN s=D9 n (s.drop (i+t.length)) (i+t.length) acc):=fun k t v2 σ2 hsc ho2=>by
        have hsn:=Pe hsc
        rw [hsl] at hsn
        rw [hsc] at hs
        refine ⟨hsn.1,by omega,by omega,acc++[⟨k,t,i⟩],n,by simpa [Tok.enc] using ho2,by simp only [AA,Qr];omega,by omega,?_⟩
        rw [hs];simp only;rw [← El hx,CN]
       have fail:∀e:Int,De (x::s.drop (i+1))= .error e→BN s=([],i,e):=fun e he=>by rw [hs,he]
       have hwd:=jM (c:=CT GZ) s i hi
       have hdd:=jM (c:=CT Er) s i hi
       have hsg:=wH s i (GK (x::s.drop (i+1))) hi (by rw [hld];exact jJ _ _)
       have hwl:=Ep (CT GZ) (s.drop i)
       have hdl:=Ep (CT Er) (s.drop i)
       have hsl2:=jJ x (s.drop (i+1))
       have hL1:=ZS s i x hx
       have hL2:=ZT s i x hx
       rw [hld] at hwd hdd hsg hwl hdl hL1 hL2
       simp only [hsl] at hwl hdl hsl2
       have hw0:=fun n (h:n≤s.length - i)=>wrap_add (show i+n≤9000000000000000000 by omega)
       have hap:∀(r:List DV),r.length=3→∀q∈[r],q.length=3:=fun r hr q hq=>by rw [Dy] at hq;rw [hq];exact hr
       have gt24':=ADQ
       have gt1':=gt1
       by_cases hlu:(Mg x.toNat||Kk x.toNat)=true
       · have hwx:CT GZ x=true:=by rw [fS,hlu];rfl
         have hsc:De (x::s.drop (i+1))=if decide (((x::s.drop (i+1)).takeWhile (CT GZ)).length>24) then .error 9
                                                                                 else if Kk x.toNat then .ok (2,(x::s.drop (i+1)).takeWhile (CT GZ))
                                                                                 else if Sc ((x::s.drop (i+1)).takeWhile (CT GZ)) then .ok (4,(x::s.drop (i+1)).takeWhile (CT GZ))
                                                                                 else .ok (1,(x::s.drop (i+1)).takeWhile (CT GZ)):=by rw [De,if_pos hlu]
         have hL:=fun K k=>hL1 hwx (by omega) σ1 v (.d (.int .u8 x.toNat)) K k
         generalize ((x::s.drop (i+1)).takeWhile (CT GZ))=w at hwd hwl hsc hL
         have hwn:=hw0 w.length hwl
         cases hup:Kk x.toNat<;>cases hlo:Mg x.toNat<;>rw [hup] at hsc<;>first|(simp only [hup,hlo,Bool.or_self,AU] at hlu;done)|skip
         all_goals (repeat' (first|refine Run.ct rfl ?_|((first|refine Run.reg mixed ?_|refine Run.AJ ?_|(refine Run.B3 ?_;refine Run.PX [0,5,6,7,8] ?_;simp -implicitDefEqProofs only [go_sem];refine hL _ _ ?_)|(refine JH.own ho rfl (by simp) (by simp;omega) (by decide) (fun v2 σ2 ho2 hbk=>?_))|(refine Run.A9 HK ho.le ?_)|refine AI.det (Ir _ _) ?_|refine AI.det (It _ _) ?_|refine AI.det (aY _ _) ?_)<;>try simp -implicitDefEqProofs only [hup,hlo,BQ hlt,DJ hx,h9,h10,h13,h32,Qn,hc,hwn,hwd,gt24',ho.BJ,AU,go_sem])|(refine ⟨fun h=>?_,fun h=>?_⟩<;>first|(cases h;done)|try simp only [h])|fail))
         all_goals first
          |(obtain ⟨p1,p2,p3⟩:=next _ w _ _ (by rw [hsc];simp only [*,AU,reduceIte,BH,Dd,BK,Ea,JA,Iz]) ho2;exact ih (i+w.length,_,_) p3 (by simp only;omega))
          |(rw [fail 9 (by rw [hsc];simp only [*,AU,reduceIte,BH,Dd,BK,Ea,JA,Iz])];simp [Hq];done)
       · simp only [RH,EA] at hlu
         have hnlu:¬(Mg x.toNat||Kk x.toNat)=true:=by simp [hlu]
         cases hdg:Er x.toNat with
         |true=>
          have hsc:De (x::s.drop (i+1))=if x==48&&decide (((x::s.drop (i+1)).takeWhile (CT Er)).length>1) then .error 2
                                                                                         else if (FL ((x::s.drop (i+1)).takeWhile (CT Er)) 0).isSome then .ok (3,(x::s.drop (i+1)).takeWhile (CT Er))
                                                                                         else .error 9:=by rw [De,if_neg hnlu,if_pos hdg]
          have hL:=fun K k=>hL2 hdg (by omega) σ1 v (.d (.int .u8 x.toNat)) K k
          generalize ((x::s.drop (i+1)).takeWhile (CT Er))=w at hdd hdl hsc hL
          have hwn:=hw0 w.length hdl
          have hval:=iT w σ1 (by omega)
          cases hv:FL w 0 with
          |some z=>
           rw [hv] at hval
           (repeat' (first|refine Run.ct rfl ?_|((first|refine Run.reg mixed ?_|refine Run.AJ ?_|(refine Run.B3 ?_;refine Run.PX [0,5,6,7,8] ?_;simp -implicitDefEqProofs only [go_sem];refine hL _ _ ?_)|(refine JH.own ho rfl (by simp) (by simp;omega) (by decide) (fun v2 σ2 ho2 hbk=>?_))|(refine Run.A9 HK ho.le ?_)|refine AI.det (Ir _ _) ?_|refine AI.det (It _ _) ?_|refine AI.det (HY _ _) ?_|refine AI.det (hval) ?_|(refine GL rfl (fun h=>?_) (fun h=>?_)<;>try (cases h;done)))<;>try simp -implicitDefEqProofs only [BQ hlt,DJ hx,h9,h10,h13,h32,Qn,hc,hwn,hdd,gt1',wQ,hlu.1,hlu.2,hdg,ho.BJ,AU,go_sem])|(refine ⟨fun h=>?_,fun h=>?_⟩<;>first|(cases h;done)|try simp only [h])|fail))
           all_goals first
            |(obtain ⟨p1,p2,p3⟩:=next _ w _ _ (by rw [hsc];simp only [*,AU,reduceIte,BH,Dd,BK,Ea,JA,Iz]) ho2;exact ih (i+w.length,_,_) p3 (by simp only;omega))
            |(rw [fail 2 (by rw [hsc];simp only [*,AU,reduceIte,BH,Dd,BK,Ea,JA,Iz])];simp [Hq];done)
          |none=>
           rw [hv] at hval
           (repeat' (first|refine Run.ct rfl ?_|((first|refine Run.reg mixed ?_|refine Run.AJ ?_|(refine Run.B3 ?_;refine Run.PX [0,5,6,7,8] ?_;simp -implicitDefEqProofs only [go_sem];refine hL _ _ ?_)|(refine JH.own ho rfl (by simp) (by simp;omega) (by decide) (fun v2 σ2 ho2 hbk=>?_))|(refine Run.A9 HK ho.le ?_)|refine AI.det (Ir _ _) ?_|refine AI.det (It _ _) ?_|refine AI.det (HY _ _) ?_|refine AI.det (hval) ?_|(refine GL rfl (fun h=>?_) (fun h=>?_)<;>try (cases h;done)))<;>try simp -implicitDefEqProofs only [BQ hlt,DJ hx,h9,h10,h13,h32,Qn,hc,hwn,hdd,gt1',wQ,hlu.1,hlu.2,hdg,ho.BJ,AU,go_sem])|(refine ⟨fun h=>?_,fun h=>?_⟩<;>first|(cases h;done)|try simp only [h])|fail))
           all_goals first
            |(rw [fail 2 (by rw [hsc];simp only [*,AU,reduceIte,BH,Dd,BK,Ea,JA,Iz])];simp [Hq];done)
            |(rw [fail 9 (by rw [hsc];simp only [*,AU,reduceIte,BH,Dd,BK,Ea,JA,Iz])];simp [Hq];done)
         |false=>
          have hsc:De (x::s.drop (i+1))=if (x::s.drop (i+1)).take (GK (x::s.drop (i+1)))==[] then .error 2 else .ok (5,(x::s.drop (i+1)).take (GK (x::s.drop (i+1)))):=by rw [De,if_neg hnlu,if_neg (by simp [hdg])]
          have hsk:=mG (x::s.drop (i+1)) σ1 (by simp)
          have hwn:=hw0 (GK (x::s.drop (i+1))) hsl2
          have htl:((x::s.drop (i+1)).take (GK (x::s.drop (i+1)))).length=GK (x::s.drop (i+1)):=by rw [B1,hsl];omega
          generalize GK (x::s.drop (i+1))=m at hsc hsk hwn hsg hsl2 htl
          generalize ((x::s.drop (i+1)).take m)=w at hsc hsg htl
          have hz:((m:Int)==0)=(w==[]):=by
           rw [Dt];simp only [beq_iff_eq]
           rw [← OE,htl];omega
          cases hw:(w==[]) with
          |true=>
           (repeat' (first|refine Run.ct rfl ?_|((first|refine Run.reg mixed ?_|refine Run.AJ ?_|(refine Run.A9 HK ho.le ?_)|refine AI.det (Ir _ _) ?_|refine AI.det (It _ _) ?_|refine AI.det (HY _ _) ?_|refine AI.det (hsk) ?_)<;>try simp -implicitDefEqProofs only [BQ hlt,DJ hx,h9,h10,h13,h32,Qn,hc,hss,hwn,hsg,hlu.1,hlu.2,hdg,hz,hw,ho.BJ,AU,go_sem])|fail))
           rw [fail 2 (by rw [hsc,if_pos hw])];simp [Hq]
          |false=>
           (repeat' (first|refine Run.ct rfl ?_|((first|refine Run.reg mixed ?_|refine Run.AJ ?_|(refine JH.own ho rfl (by simp) (by simp;omega) (by decide) (fun v2 σ2 ho2 hbk=>?_))|(refine Run.A9 HK ho.le ?_)|refine AI.det (Ir _ _) ?_|refine AI.det (It _ _) ?_|refine AI.det (HY _ _) ?_|refine AI.det (hsk) ?_)<;>try simp -implicitDefEqProofs only [BQ hlt,DJ hx,h9,h10,h13,h32,Qn,hc,hss,hwn,hsg,hlu.1,hlu.2,hdg,hz,hw,ho.BJ,AU,go_sem])|fail))
           obtain ⟨p1,p2,p3⟩:=next 5 w _ _ (by rw [hsc,if_neg (by simp [hw])]) ‹_›
           rw [htl] at p1 p2 p3
           exact ih (i+m,_,_) p3 (by simp only;omega)
   · have hge:i=s.length:=by omega
     rw [hge,RJ,D9] at hs
     (repeat' (first|refine Run.ct rfl ?_|((first|refine Run.reg mixed ?_|refine Run.AJ ?_|(refine JH.own ho rfl (by simp) (by simp;omega) (by decide) (fun v2 σ2 ho2 hbk=>?_))|(refine Run.A9 HK ho2.le ?_))<;>try simp -implicitDefEqProofs only [DA hlt,go_sem])|fail))
     simp -implicitDefEqProofs only [ho2.As,ho2.plain,go_sem]
     rw [hs];simp [Hq,Tok.enc]
end Go.Ab
