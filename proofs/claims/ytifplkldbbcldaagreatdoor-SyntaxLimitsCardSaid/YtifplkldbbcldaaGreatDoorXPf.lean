/- The parser: types. Texts split into tokens, as the reference does it. Conditions: none. -/
import Derived.Test.YtifplkldbbcldaaGreatDoorXDt
set_option linter.unusedSimpArgs false
set_option linter.unusedVariables false
set_option maxRecDepth 4000
set_option maxHeartbeats 8000000
open List renaming map_cons→AF,map_nil→AI,mem_map→LM,length_pos_iff→Ar,length_map→AE,length_cons→AD,length_nil→AG,map_append→Bj,getElem?_drop→BH,getElem?_eq_none→JU,getElem?_eq_some_iff→A9,length_drop→Ai,drop_take→KR,drop_drop→CA,length_append→AA,mem_singleton→Di,length_take→BY,length_eq_zero_iff→Wq,drop_length→QX
open Bool renaming false_eq_true→AU,or_eq_false_iff→Dk,and_true→BA,and_false→DZ,true_and→BE,false_and→EU,not_eq_true→QW,eq_iff_iff→Dd
open Nat renaming lt_or_ge→Cc,add_zero→EV,le_refl→A7
open Option renaming isSome_some→I5,isSome_none→I4
namespace Go.Ab
open Go.Proofs
variable {α β:Type}
theorem run_bind (m:PM α) (k:α→PM β) (s:PSt):(m.bind k).run s=(k (m.run s).1).run (m.run s).2:=rfl
theorem run_pure (a:α) (s:PSt):(PM.pure a).run s=(a,s):=rfl
theorem rN (a:α) (s:PSt):(PM.fail a).run s=(a,s.fail):=rfl
theorem run_map (g:α→β) (m:PM α) (s:PSt):(m.map g).run s=(g (m.run s).1,(m.run s).2):=rfl
theorem eL (k:Int) (y n:PM α) (s:PSt):(PM.kind k y n).run s=if (s.hd.kind==k)=true then y.run s else n.run s:=rfl
theorem HP (t:Str) (ht:t≠[]) (y n:PM α) (s:PSt):(PM.acc t ht y n).run s=if (s.hd.text==t)=true then y.run s.adv else n.run s:=rfl
theorem DA (i:Nat) (L:List Tok) (n:Nat) (t:Str) (ht:t≠[]):PC 127 [.gp i 0,.d (.str t)] i L n (PM.exp t ht) (fun _=>.tup []):=fun σ s _ h1 _ h3=>Tg h1 t ht σ h3
theorem SO (i:Nat) (L:List Tok) (n:Nat):PC 124 [.gp i 0,.d (.int .i64 2)] i L n FM (fun x=>.d (.str x)):=bU i L n 2 (by decide)
theorem jT (i:Nat) (L:List Tok) (n:Nat) {T:PM TE} (hT:PC 168 [.gp i 0] i L n T teA) (k:Int):PC 184 [.gp i 0,.d (.int .i64 k)] i L n (Rt k T) teA:=by
 intro σ s0 g0 h0 l0 b0
 refine O2 (by simp) ?_
 rw [BK]
 simp only [Rt,run_bind,run_pure,teA,TE.A2,AF,AI]
 (have c0:=(DA i L n [40] (by decide)) σ s0 g0 h0 (by omega) b0;have h1:=h0.run (PM.exp [40] (by decide));have l1:=PM.le (PM.exp [40] (by decide)) h0.wf;generalize (PM.exp [40] (by decide)).run s0=y at c0 h1 l1 ⊢;obtain ⟨x0,s1⟩:=y;simp only at c0 h1 l1 ⊢;have b1:(σ.AK i (psA L s1)).blk i=some (psA L s1):=(by rw [AO,if_pos rfl]))
 (have c1:=hT (σ.AK i (psA L s1)) s1 g0 h1 (by omega) b1;rw [A1] at c1;have h2:=h1.run (T);have l2:=PM.le (T) h1.wf;generalize (T).run s1=y at c1 h2 l2 ⊢;obtain ⟨x1,s2⟩:=y;simp only at c1 h2 l2 ⊢;have b2:(σ.AK i (psA L s2)).blk i=some (psA L s2):=(by rw [AO,if_pos rfl]);obtain ⟨k0,n0,a0⟩:=x1;simp only [teA,TE.A2,AF,AI] at c1 ⊢)
 (have c2:=(DA i L n [41] (by decide)) (σ.AK i (psA L s2)) s2 g0 h2 (by omega) b2;rw [A1] at c2;have h3:=h2.run (PM.exp [41] (by decide));have l3:=PM.le (PM.exp [41] (by decide)) h2.wf;generalize (PM.exp [41] (by decide)).run s2=y at c2 h3 l3 ⊢;obtain ⟨x2,s3⟩:=y;simp only at c2 h3 l3 ⊢;have b3:(σ.AK i (psA L s3)).blk i=some (psA L s3):=(by rw [AO,if_pos rfl]))
 (repeat' (first|refine Run.ct rfl ?_|((first|refine Run.reg mixed ?_|refine Run.AL ?_|refine Run.Ad IU (AN.le_refl _) ?_|(refine AH.upd c0 ?_)|(refine AH.upd c1 ?_)|(refine AH.upd c2 ?_)|(refine AR rfl (fun h=>?_) (fun h=>?_)<;>try (cases h;done)))<;>try simp -implicitDefEqProofs only [go_sem])|(refine ⟨fun h=>?_,fun h=>?_⟩<;>first|(cases h;done)|try simp only [h])|fail))
theorem TE.gY (t:TE):t.enc.length=3:=by cases t;rw [TE.A2];rfl
theorem Mx {α:Type} {enc:α→List DV} (z:Nat) (l:List α) (h:∀x,(enc x).length=z):∀r∈l.map enc,r.length=z:=fun r hr=>by
 obtain ⟨x,_,rfl⟩:=LM.1 hr
 exact h x
theorem X7:Ap Tryz.prog 168=true:=by kernel_rfl
set_option maxHeartbeats 4000000 in
theorem r3 (i:Nat) (L:List Tok):∀n,PC 168 [.gp i 0] i L n (Fg n) teA
 |0=>fun σ s _ h1 h2 h3=>by have:=Ar.2 h1.wf.ne;omega
 |n+1=>by
  have ih:=r3 i L n
  intro σ s0 g0 h0 l0 b0
  refine Sm (by simp) ?_
  rw [BB]
  have hpk:=Pq h0 σ b0
  rw [Fg]
  simp only [eL,HP]
  cases hk1:s0.hd.kind==1 with
  |true=>
   simp only [if_true,run_bind,run_pure,teA,TE.A2,AF,AI]
   (have c0:=(Po i L (n+1)) σ s0 g0 h0 (by omega) b0;have h1:=h0.run (F6);have l1:=PM.le (F6) h0.wf;generalize (F6).run s0=y at c0 h1 l1 ⊢;obtain ⟨x0,s1⟩:=y;simp only at c0 h1 l1 ⊢;have b1:(σ.AK i (psA L s1)).blk i=some (psA L s1):=(by rw [AO,if_pos rfl]))
   (repeat' (first|refine Run.ct rfl ?_|((first|refine Run.reg mixed ?_|refine Run.AL ?_|refine Run.Ad BP (AN.le_refl _) ?_|(refine AH.upd c0 ?_)|refine AH.det (hpk) ?_|(refine AR rfl (fun h=>?_) (fun h=>?_)<;>try (cases h;done)))<;>try simp -implicitDefEqProofs only [hk1,go_sem])|(refine ⟨fun h=>?_,fun h=>?_⟩<;>first|(cases h;done)|try simp only [h])|fail))
  |false=>
  cases hk2:s0.hd.kind==2 with
  |true=>
   simp only [if_true,if_false,AU,run_bind,run_pure,teA,TE.A2,AF,AI]
   (have c0:=(SO i L (n+1)) σ s0 g0 h0 (by omega) b0;have h1:=h0.run (FM);have l1:=PM.le (FM) h0.wf;generalize (FM).run s0=y at c0 h1 l1 ⊢;obtain ⟨x0,s1⟩:=y;simp only at c0 h1 l1 ⊢;have b1:(σ.AK i (psA L s1)).blk i=some (psA L s1):=(by rw [AO,if_pos rfl]))
   (have c1:=(JG i L n X7 ih).pc (σ.AK i (psA L s1)) s1 g0 h1 (by omega) b1;rw [A1] at c1;have h2:=h1.run (IH (Fg n));have l2:=PM.le (IH (Fg n)) h1.wf;generalize (IH (Fg n)).run s1=y at c1 h2 l2 ⊢;obtain ⟨x1,s2⟩:=y;simp only at c1 h2 l2 ⊢;have b2:(σ.AK i (psA L s2)).blk i=some (psA L s2):=(by rw [AO,if_pos rfl]))
   (repeat' (first|refine Run.ct rfl ?_|((first|refine Run.reg mixed ?_|refine Run.AL ?_|refine Run.Ad BP (AN.le_refl _) ?_|(refine AH.upd c0 ?_)|(refine AH.upd c1 ?_)|refine AH.det (hpk) ?_|(refine AR rfl (fun h=>?_) (fun h=>?_)<;>try (cases h;done)))<;>try simp -implicitDefEqProofs only [hk1,hk2,go_sem])|(refine ⟨fun h=>?_,fun h=>?_⟩<;>first|(cases h;done)|try simp only [h])|fail))
  |false=>
  simp only [if_false,AU]
  cases t1:s0.hd.text==[105,110,116] with
  |true=>
   simp only [if_true,run_pure,teA,TE.A2,AF,AI]
   (have c0:=Cz h0 [105,110,116] σ b0 t1;have h1:=h0.adv (t:=[105,110,116]) (by decide) t1;have l1:=BT h0.wf;generalize s0.adv=s1 at c0 h1 l1 ⊢;have b1:(σ.AK i (psA L s1)).blk i=some (psA L s1):=by rw [AO,if_pos rfl])
   (repeat' (first|refine Run.ct rfl ?_|((first|refine Run.reg mixed ?_|refine Run.AL ?_|refine Run.Ad BP (AN.le_refl _) ?_|(refine AH.upd c0 ?_)|refine AH.det (hpk) ?_|(refine AR rfl (fun h=>?_) (fun h=>?_)<;>try (cases h;done)))<;>try simp -implicitDefEqProofs only [hk1,hk2,go_sem])|(refine ⟨fun h=>?_,fun h=>?_⟩<;>first|(cases h;done)|try simp only [h])|fail))
  |false=>
  have f1:=Cy h0 _ σ b0 t1
  cases t2:s0.hd.text==[98,111,111,108] with
  |true=>
   simp only [if_true,if_false,AU,run_pure,teA,TE.A2,AF,AI]
   (have c0:=Cz h0 [98,111,111,108] σ b0 t2;have h1:=h0.adv (t:=[98,111,111,108]) (by decide) t2;have l1:=BT h0.wf;generalize s0.adv=s1 at c0 h1 l1 ⊢;have b1:(σ.AK i (psA L s1)).blk i=some (psA L s1):=by rw [AO,if_pos rfl])
   (repeat' (first|refine Run.ct rfl ?_|((first|refine Run.reg mixed ?_|refine Run.AL ?_|refine Run.Ad BP (AN.le_refl _) ?_|(refine AH.upd c0 ?_)|refine AH.det (hpk) ?_|refine AH.det (f1) ?_|(refine AR rfl (fun h=>?_) (fun h=>?_)<;>try (cases h;done)))<;>try simp -implicitDefEqProofs only [hk1,hk2,go_sem])|(refine ⟨fun h=>?_,fun h=>?_⟩<;>first|(cases h;done)|try simp only [h])|fail))
  |false=>
  have f2:=Cy h0 _ σ b0 t2
  cases t3:s0.hd.text==[117,110,105,116] with
  |true=>
   simp only [if_true,if_false,AU,run_pure,teA,TE.A2,AF,AI]
   (have c0:=Cz h0 [117,110,105,116] σ b0 t3;have h1:=h0.adv (t:=[117,110,105,116]) (by decide) t3;have l1:=BT h0.wf;generalize s0.adv=s1 at c0 h1 l1 ⊢;have b1:(σ.AK i (psA L s1)).blk i=some (psA L s1):=by rw [AO,if_pos rfl])
   (repeat' (first|refine Run.ct rfl ?_|((first|refine Run.reg mixed ?_|refine Run.AL ?_|refine Run.Ad BP (AN.le_refl _) ?_|(refine AH.upd c0 ?_)|refine AH.det (hpk) ?_|refine AH.det (f1) ?_|refine AH.det (f2) ?_|(refine AR rfl (fun h=>?_) (fun h=>?_)<;>try (cases h;done)))<;>try simp -implicitDefEqProofs only [hk1,hk2,go_sem])|(refine ⟨fun h=>?_,fun h=>?_⟩<;>first|(cases h;done)|try simp only [h])|fail))
  |false=>
  have f3:=Cy h0 _ σ b0 t3
  cases t4:s0.hd.text==[97,114,114,97,121] with
  |true=>
   simp only [if_true,if_false,AU]
   (have c0:=Cz h0 [97,114,114,97,121] σ b0 t4;have h1:=h0.adv (t:=[97,114,114,97,121]) (by decide) t4;have l1:=BT h0.wf;generalize s0.adv=s1 at c0 h1 l1 ⊢;have b1:(σ.AK i (psA L s1)).blk i=some (psA L s1):=by rw [AO,if_pos rfl])
   (have c1:=(jT i L n ih 7) (σ.AK i (psA L s1)) s1 g0 h1 (by omega) b1;rw [A1] at c1;have h2:=h1.run (Rt 7 (Fg n));have l2:=PM.le (Rt 7 (Fg n)) h1.wf;generalize (Rt 7 (Fg n)).run s1=y at c1 h2 l2 ⊢;obtain ⟨x1,s2⟩:=y;simp only at c1 h2 l2 ⊢;have b2:(σ.AK i (psA L s2)).blk i=some (psA L s2):=(by rw [AO,if_pos rfl]);obtain ⟨k0,n0,a0⟩:=x1;simp only [teA,TE.A2,AF,AI] at c1 ⊢)
   (repeat' (first|refine Run.ct rfl ?_|((first|refine Run.reg mixed ?_|refine Run.AL ?_|refine Run.Ad BP (AN.le_refl _) ?_|(refine AH.upd c0 ?_)|(refine AH.upd c1 ?_)|refine AH.det (hpk) ?_|refine AH.det (f1) ?_|refine AH.det (f2) ?_|refine AH.det (f3) ?_|(refine AR rfl (fun h=>?_) (fun h=>?_)<;>try (cases h;done)))<;>try simp -implicitDefEqProofs only [hk1,hk2,go_sem])|(refine ⟨fun h=>?_,fun h=>?_⟩<;>first|(cases h;done)|try simp only [h])|fail))
  |false=>
  have f4:=Cy h0 _ σ b0 t4
  cases t5:s0.hd.text==[114,101,102] with
  |true=>
   simp only [if_true,if_false,AU]
   (have c0:=Cz h0 [114,101,102] σ b0 t5;have h1:=h0.adv (t:=[114,101,102]) (by decide) t5;have l1:=BT h0.wf;generalize s0.adv=s1 at c0 h1 l1 ⊢;have b1:(σ.AK i (psA L s1)).blk i=some (psA L s1):=by rw [AO,if_pos rfl])
   (have c1:=(jT i L n ih 8) (σ.AK i (psA L s1)) s1 g0 h1 (by omega) b1;rw [A1] at c1;have h2:=h1.run (Rt 8 (Fg n));have l2:=PM.le (Rt 8 (Fg n)) h1.wf;generalize (Rt 8 (Fg n)).run s1=y at c1 h2 l2 ⊢;obtain ⟨x1,s2⟩:=y;simp only at c1 h2 l2 ⊢;have b2:(σ.AK i (psA L s2)).blk i=some (psA L s2):=(by rw [AO,if_pos rfl]);obtain ⟨k0,n0,a0⟩:=x1;simp only [teA,TE.A2,AF,AI] at c1 ⊢)
   (repeat' (first|refine Run.ct rfl ?_|((first|refine Run.reg mixed ?_|refine Run.AL ?_|refine Run.Ad BP (AN.le_refl _) ?_|(refine AH.upd c0 ?_)|(refine AH.upd c1 ?_)|refine AH.det (hpk) ?_|refine AH.det (f1) ?_|refine AH.det (f2) ?_|refine AH.det (f3) ?_|refine AH.det (f4) ?_|(refine AR rfl (fun h=>?_) (fun h=>?_)<;>try (cases h;done)))<;>try simp -implicitDefEqProofs only [hk1,hk2,go_sem])|(refine ⟨fun h=>?_,fun h=>?_⟩<;>first|(cases h;done)|try simp only [h])|fail))
  |false=>
  have f5:=Cy h0 _ σ b0 t5
  cases t6:s0.hd.text==[40] with
  |true=>
   simp only [if_true,if_false,AU,run_bind,run_pure,teA,TE.A2,AF,AI]
   (have c0:=Cz h0 [40] σ b0 t6;have h1:=h0.adv (t:=[40]) (by decide) t6;have l1:=BT h0.wf;generalize s0.adv=s1 at c0 h1 l1 ⊢;have b1:(σ.AK i (psA L s1)).blk i=some (psA L s1):=by rw [AO,if_pos rfl])
   (have c1:=ih (σ.AK i (psA L s1)) s1 g0 h1 (by omega) b1;rw [A1] at c1;have h2:=h1.run (Fg n);have l2:=PM.le (Fg n) h1.wf;generalize (Fg n).run s1=y at c1 h2 l2 ⊢;obtain ⟨x1,s2⟩:=y;simp only at c1 h2 l2 ⊢;have b2:(σ.AK i (psA L s2)).blk i=some (psA L s2):=(by rw [AO,if_pos rfl]);obtain ⟨k0,n0,a0⟩:=x1;simp only [teA,TE.A2,AF,AI] at c1 ⊢)
   (have c2:=(DA i L n [44] (by decide)) (σ.AK i (psA L s2)) s2 g0 h2 (by omega) b2;rw [A1] at c2;have h3:=h2.run (PM.exp [44] (by decide));have l3:=PM.le (PM.exp [44] (by decide)) h2.wf;generalize (PM.exp [44] (by decide)).run s2=y at c2 h3 l3 ⊢;obtain ⟨x2,s3⟩:=y;simp only at c2 h3 l3 ⊢;have b3:(σ.AK i (psA L s3)).blk i=some (psA L s3):=(by rw [AO,if_pos rfl]))
   (have d3:=fun tk:Nat=>(E6 i L n X7 ih).pc ((σ.AK i (psA L s3)).DX tk) s3 g0 h3 (by omega) (by rw [Ft];exact b3);have c3:=(E6 i L n X7 ih).pc (σ.AK i (psA L s3)) s3 g0 h3 (by omega) b3;rw [A1] at c3;have h4:=h3.run (listed (Fg n));have l4:=PM.le (listed (Fg n)) h3.wf;have n3:=Pm (read:=Fg n) h3.wf;generalize (listed (Fg n)).run s3=y at c3 d3 h4 l4 n3 ⊢;obtain ⟨x3,s4⟩:=y;simp only at c3 d3 h4 l4 n3 ⊢;have q3:=h0.suf.length_le;have q3':=h0.len)
   (repeat' (first|refine Run.ct rfl ?_|((first|refine Run.reg mixed ?_|refine Run.AL ?_|(refine AH.upd c0 ?_)|(refine AH.upd c1 ?_)|(refine AH.upd c2 ?_)|refine AH.det (hpk) ?_|refine AH.det (f1) ?_|refine AH.det (f2) ?_|refine AH.det (f3) ?_|refine AH.det (f4) ?_|refine AH.det (f5) ?_|(refine AR rfl (fun h=>?_) (fun h=>?_)<;>try (cases h;done)))<;>try simp -implicitDefEqProofs only [hk1,hk2,go_sem])|(refine ⟨fun h=>?_,fun h=>?_⟩<;>first|(cases h;done)|try simp only [h])|fail))
   refine Run.Tu mixed ?_;simp -implicitDefEqProofs only [go_sem]
   refine ⟨?_,?_⟩
   · refine IJ.own rfl (by decide) (fun tk htk=>?_);simp -implicitDefEqProofs only [go_sem]
     refine AH.upd (d3 tk) ?_;simp -implicitDefEqProofs only [go_sem]
     (apply LS.tok (LS.tV htk s4);rfl;exact (Mx _ _ TE.gY);(simp only [AE,AD,AG];omega);decide;intro v2 τ2 ho);simp -implicitDefEqProofs only [ho.own.BQ,ho.own.At,ho.own.cells,ho.own.cell,ho.own.plain,ho.own.dv,if_true,go_sem]
     (repeat' (first|refine Run.ct rfl ?_|((first|refine Run.reg mixed ?_|refine Run.AL ?_|(refine Run.Ad BP ho.le ?_)|(refine AR rfl (fun h=>?_) (fun h=>?_)<;>try (cases h;done)))<;>try simp -implicitDefEqProofs only [ho.own.BQ,ho.own.At,ho.own.cells,ho.own.cell,ho.own.plain,ho.own.dv,if_true,go_sem])|(refine ⟨fun h=>?_,fun h=>?_⟩<;>first|(cases h;done)|try simp only [h])|fail))
   · refine AH.upd c3 ?_;simp -implicitDefEqProofs only [go_sem]
     refine IJ.own rfl (by decide) (fun tk htk=>?_);simp -implicitDefEqProofs only [go_sem]
     (apply LS.tok (LS.tU htk);rfl;exact (Mx _ _ TE.gY);(simp only [AE,AD,AG];omega);decide;intro v2 τ2 ho);simp -implicitDefEqProofs only [ho.own.BQ,ho.own.At,ho.own.cells,ho.own.cell,ho.own.plain,ho.own.dv,if_true,go_sem]
     (repeat' (first|refine Run.ct rfl ?_|((first|refine Run.reg mixed ?_|refine Run.AL ?_|(refine Run.Ad BP ho.le ?_)|(refine AR rfl (fun h=>?_) (fun h=>?_)<;>try (cases h;done)))<;>try simp -implicitDefEqProofs only [ho.own.BQ,ho.own.At,ho.own.cells,ho.own.cell,ho.own.plain,ho.own.dv,if_true,go_sem])|(refine ⟨fun h=>?_,fun h=>?_⟩<;>first|(cases h;done)|try simp only [h])|fail))
  |false=>
  have f6:=Cy h0 _ σ b0 t6
  cases t7:s0.hd.text==[102,110] with
  |true=>
   simp only [if_true,if_false,AU,run_bind,run_pure,teA,TE.A2,AF,AI]
   (have c0:=Cz h0 [102,110] σ b0 t7;have h1:=h0.adv (t:=[102,110]) (by decide) t7;have l1:=BT h0.wf;generalize s0.adv=s1 at c0 h1 l1 ⊢;have b1:(σ.AK i (psA L s1)).blk i=some (psA L s1):=by rw [AO,if_pos rfl])
   (have c1:=(DA i L n [40] (by decide)) (σ.AK i (psA L s1)) s1 g0 h1 (by omega) b1;rw [A1] at c1;have h2:=h1.run (PM.exp [40] (by decide));have l2:=PM.le (PM.exp [40] (by decide)) h1.wf;generalize (PM.exp [40] (by decide)).run s1=y at c1 h2 l2 ⊢;obtain ⟨x1,s2⟩:=y;simp only at c1 h2 l2 ⊢;have b2:(σ.AK i (psA L s2)).blk i=some (psA L s2):=(by rw [AO,if_pos rfl]))
   have c2:=PU i L n X7 ih (σ.AK i (psA L s2)) s2 g0 h2 (by omega) b2
   rw [A1] at c2
   have h3:=h2.run (closed (Fg n))
   have l3:=PM.le (closed (Fg n)) h2.wf
   have n2:=Tf (read:=Fg n) h2.wf
   have q2:=h0.suf.length_le
   have q3:=h0.len
   generalize (closed (Fg n)).run s2=y at c2 h3 l3 n2 ⊢
   obtain ⟨x2,s3⟩:=y
   simp only at c2 h3 l3 n2 ⊢
   (repeat' (first|refine Run.ct rfl ?_|((first|refine Run.reg mixed ?_|refine Run.AL ?_|(refine AH.upd c0 ?_)|(refine AH.upd c1 ?_)|(refine AH.mk rfl c2 ?_;intro v1 τ1 ho1)|refine AH.det (hpk) ?_|refine AH.det (f1) ?_|refine AH.det (f2) ?_|refine AH.det (f3) ?_|refine AH.det (f4) ?_|refine AH.det (f5) ?_|refine AH.det (f6) ?_|(refine AR rfl (fun h=>?_) (fun h=>?_)<;>try (cases h;done)))<;>try simp -implicitDefEqProofs only [hk1,hk2,go_sem])|(refine ⟨fun h=>?_,fun h=>?_⟩<;>first|(cases h;done)|try simp only [h])|fail))
   have hl1:=LS.of ho1
   have e3:=Tg h3 [45,62] (by decide) τ1 hl1.blk
   have hl2:=hl1.step ((PM.exp [45,62] (by decide)).run s3).2
   have h4:=h3.run (PM.exp [45,62] (by decide))
   have l4:=PM.le (PM.exp [45,62] (by decide)) h3.wf
   generalize (PM.exp [45,62] (by decide)).run s3=y at e3 hl2 h4 l4 ⊢
   obtain ⟨x3,s4⟩:=y
   simp only at e3 hl2 h4 l4 ⊢
   have c4:=ih (τ1.AK i (psA L s4)) s4 (hl1.gt g0) h4 (by omega) hl2.blk
   rw [A1] at c4
   have hl3:=hl1.step ((Fg n).run s4).2
   generalize (Fg n).run s4=y at c4 hl3 ⊢
   obtain ⟨x4,s5⟩:=y
   obtain ⟨k0,n0,a0⟩:=x4
   simp only [teA,TE.A2,AF,AI] at c4 hl3 ⊢
   (repeat' (first|refine Run.ct rfl ?_|((first|refine Run.reg mixed ?_|refine Run.AL ?_|(refine AH.upd e3 ?_)|(refine AH.upd c4 ?_)|(refine AR rfl (fun h=>?_) (fun h=>?_)<;>try (cases h;done)))<;>try simp -implicitDefEqProofs only [ho1.BQ,go_sem])|(refine ⟨fun h=>?_,fun h=>?_⟩<;>first|(cases h;done)|try simp only [h])|fail))
   refine hl3.tok rfl (by simp) (by simp;omega) (by decide) (fun v2 τ2 ho=>?_);simp -implicitDefEqProofs only [ho.own.BQ,ho.own.At,ho.own.cells,ho.own.cell,ho.own.plain,ho.own.dv,if_true,go_sem]
   (repeat' (first|refine Run.ct rfl ?_|((first|refine Run.reg mixed ?_|refine Run.AL ?_|(refine Run.Ad BP ho.le ?_)|(refine AR rfl (fun h=>?_) (fun h=>?_)<;>try (cases h;done)))<;>try simp -implicitDefEqProofs only [ho.own.BQ,ho.own.At,ho.own.cells,ho.own.cell,ho.own.plain,ho.own.dv,if_true,Bj,AF,AI,TE.A2,go_sem])|(refine ⟨fun h=>?_,fun h=>?_⟩<;>first|(cases h;done)|try simp only [h])|fail))
  |false=>
  have f7:=Cy h0 _ σ b0 t7
  simp only [if_false,AU,rN,teA,TE.A2,AF,AI]
  (repeat' (first|refine Run.ct rfl ?_|((first|refine Run.reg mixed ?_|refine Run.AL ?_|refine Run.Ad BP (AN.le_refl _) ?_|(refine AH.upd (U2 h0 σ b0) ?_)|refine AH.det (hpk) ?_|refine AH.det (f1) ?_|refine AH.det (f2) ?_|refine AH.det (f3) ?_|refine AH.det (f4) ?_|refine AH.det (f5) ?_|refine AH.det (f6) ?_|refine AH.det (f7) ?_|(refine AR rfl (fun h=>?_) (fun h=>?_)<;>try (cases h;done)))<;>try simp -implicitDefEqProofs only [hk1,hk2,go_sem])|(refine ⟨fun h=>?_,fun h=>?_⟩<;>first|(cases h;done)|try simp only [h])|fail))
end Go.Ab
namespace Go.Ab
open Go.Proofs
theorem cB (z:UInt8):CH GC z=(MM z.toNat||KM z.toNat||Ec z.toNat||((z.toNat:Int)==95)):=rfl
theorem YA (s:Str) (i:Nat) (x:UInt8) (hx:s[i]?=some x) (hw:CH GC x=true) (hl:s.length≤16384) (σ1:AN) (a5 a7:AV) (K:AV→AN→Prop) (k:List CI)
 (hk:Run GD K k (put 0 (.d (.str s)) (put 5 a5 (put 6 (.d (.int .i64 i)) (put 7 a7 (put 8 (.d (.int .i64 (((s.drop i).takeWhile (CH GC)).length:Nat))) U))))) E σ1):
 Run GD K (.again TH::.blk 5::k) (put 0 (.d (.str s)) (put 5 a5 (put 6 (.d (.int .i64 i)) (put 7 a7 (put 8 (.d (.int .i64 1)) U))))) E σ1:=by
 refine Run.Bh ((fun (a0:AV) (a5:AV) (a6:AV) (a7:AV)=>fun (m:Nat)=>put 0 a0 (put 5 a5 (put 6 a6 (put 7 a7 (put 8 (.d (.int .i64 m)) U))))) _ _ _ _) (fun _=>E) (fun _=>σ1) (fun m=>1≤m∧i+m≤s.length∧∀q b,q < m→(s.drop i)[q]?=some b→CH GC b=true) (fun m=>s.length - m) ?_ 1 ⟨by omega,?_,?_⟩
 · rintro m ⟨h1,hm,hall⟩ ih
   have hw0:=wrap_add (show i+m≤9000000000000000000 by omega)
   have hw1:=BN (show m+1≤9000000000000000000 by omega)
   have hend:(∀b,(s.drop i)[m]?=some b→CH GC b=false)→((s.drop i).takeWhile (CH GC)).length=m:=fun h=>by
    rw [Ei hall (by simp;omega) h];simp;omega
   by_cases hlt:i+m < s.length
   · obtain ⟨z,hz⟩:=Cd hlt
     have hz2:(s.drop i)[m]?=some z:=by rw [BH];exact hz
     have hstep:CH GC z=true→∀q b,q < m+1→(s.drop i)[q]?=some b→CH GC b=true:=fun hc q b hq hb=>by
      rcases Cc q m with h2|h2
      · exact hall q b h2 hb
      · have:q=m:=by omega
        subst this;rw [hz2] at hb;cases hb;exact hc
     (repeat' (first|refine Run.ct rfl ?_|((first|refine Run.reg mixed ?_|refine Run.AL ?_|refine AH.det (IZ _ _) ?_|refine AH.det (I0 _ _) ?_|refine AH.det (HD _ _) ?_|(refine AR rfl (fun h=>?_) (fun h=>?_)<;>try (cases h;done)))<;>try simp -implicitDefEqProofs only [hw0,hw1,BU hlt,Cv hz,go_sem])|(refine ⟨fun h=>?_,fun h=>?_⟩<;>first|(cases h;done)|try simp only [h])|fail))
     all_goals first
      |exact ih (m+1) ⟨by omega,by omega,hstep (by simp_all [cB])⟩ (by omega)
      |(rw [hend (fun b hb=>by rw [hz2] at hb;cases hb;simp_all [cB])] at hk;refine Run.Of [0,5,6,7,8] ?_;simp -implicitDefEqProofs only [go_sem];exact hk)
   · (repeat' (first|refine Run.ct rfl ?_|((first|refine Run.reg mixed ?_|refine Run.AL ?_)<;>try simp -implicitDefEqProofs only [hw0,FR hlt,go_sem])|fail))
     rw [hend (fun b hb=>by rw [BH,JU (by omega)] at hb;cases hb)] at hk
     refine Run.Of [0,5,6,7,8] ?_;simp -implicitDefEqProofs only [go_sem]
     exact hk
 · have:=(A9.1 hx).1;omega
 · intro q b hq hb
   have:q=0:=by omega
   subst this
   rw [BH,EV,hx] at hb;cases hb;exact hw
theorem YB (s:Str) (i:Nat) (x:UInt8) (hx:s[i]?=some x) (hw:CH Ec x=true) (hl:s.length≤16384) (σ1:AN) (a5 a7:AV) (K:AV→AN→Prop) (k:List CI)
 (hk:Run GD K k (put 0 (.d (.str s)) (put 5 a5 (put 6 (.d (.int .i64 i)) (put 7 a7 (put 8 (.d (.int .i64 (((s.drop i).takeWhile (CH Ec)).length:Nat))) U))))) E σ1):
 Run GD K (.again TI::.blk 7::k) (put 0 (.d (.str s)) (put 5 a5 (put 6 (.d (.int .i64 i)) (put 7 a7 (put 8 (.d (.int .i64 1)) U))))) E σ1:=by
 refine Run.Bh ((fun (a0:AV) (a5:AV) (a6:AV) (a7:AV)=>fun (m:Nat)=>put 0 a0 (put 5 a5 (put 6 a6 (put 7 a7 (put 8 (.d (.int .i64 m)) U))))) _ _ _ _) (fun _=>E) (fun _=>σ1) (fun m=>1≤m∧i+m≤s.length∧∀q b,q < m→(s.drop i)[q]?=some b→CH Ec b=true) (fun m=>s.length - m) ?_ 1 ⟨by omega,?_,?_⟩
 · rintro m ⟨h1,hm,hall⟩ ih
   have hw0:=wrap_add (show i+m≤9000000000000000000 by omega)
   have hw1:=BN (show m+1≤9000000000000000000 by omega)
   have hend:(∀b,(s.drop i)[m]?=some b→CH Ec b=false)→((s.drop i).takeWhile (CH Ec)).length=m:=fun h=>by
    rw [Ei hall (by simp;omega) h];simp;omega
   by_cases hlt:i+m < s.length
   · obtain ⟨z,hz⟩:=Cd hlt
     have hz2:(s.drop i)[m]?=some z:=by rw [BH];exact hz
     have hstep:CH Ec z=true→∀q b,q < m+1→(s.drop i)[q]?=some b→CH Ec b=true:=fun hc q b hq hb=>by
      rcases Cc q m with h2|h2
      · exact hall q b h2 hb
      · have:q=m:=by omega
        subst this;rw [hz2] at hb;cases hb;exact hc
     cases hd:Ec z.toNat with
     |true=>
      (repeat' (first|refine Run.ct rfl ?_|((first|refine Run.reg mixed ?_|refine Run.AL ?_|refine AH.det (HD _ _) ?_)<;>try simp -implicitDefEqProofs only [hw0,hw1,BU hlt,Cv hz,hd,go_sem])|fail))
      exact ih (m+1) ⟨by omega,by omega,hstep hd⟩ (by omega)
     |false=>
      (repeat' (first|refine Run.ct rfl ?_|((first|refine Run.reg mixed ?_|refine Run.AL ?_|refine AH.det (HD _ _) ?_)<;>try simp -implicitDefEqProofs only [hw0,hw1,BU hlt,Cv hz,hd,go_sem])|fail))
      rw [hend (fun b hb=>by rw [hz2] at hb;cases hb;exact hd)] at hk
      refine Run.Of [0,5,6,7,8] ?_;simp -implicitDefEqProofs only [go_sem]
      exact hk
   · (repeat' (first|refine Run.ct rfl ?_|((first|refine Run.reg mixed ?_|refine Run.AL ?_)<;>try simp -implicitDefEqProofs only [hw0,FR hlt,go_sem])|fail))
     rw [hend (fun b hb=>by rw [BH,JU (by omega)] at hb;cases hb)] at hk
     refine Run.Of [0,5,6,7,8] ?_;simp -implicitDefEqProofs only [go_sem]
     exact hk
 · have:=(A9.1 hx).1;omega
 · intro q b hq hb
   have:q=0:=by omega
   subst this
   rw [BH,EV,hx] at hb;cases hb;exact hw
theorem eQ {c:UInt8→Bool} (s:Str) (i:Nat) (hi:i≤s.length):SI (.d (.str s)) (some (.d (.int .i64 (i:Int)))) (some (.d (.int .i64 ((i+((s.drop i).takeWhile c).length:Nat):Int))))=some (.d (.str ((s.drop i).takeWhile c))):=by
 have h:=Eb c (s.drop i)
 rw [Ai] at h
 rw [rS (by omega) (by omega),KR,Nat.add_sub_cancel_left]
 congr 3
 exact (List.prefix_iff_eq_take.1 (List.takeWhile_prefix c)).symm
theorem rU (s:Str) (i n:Nat) (hi:i≤s.length) (hn:n≤(s.drop i).length):SI (.d (.str s)) (some (.d (.int .i64 (i:Int)))) (some (.d (.int .i64 ((i+n:Nat):Int))))=some (.d (.str ((s.drop i).take n))):=by
 rw [Ai] at hn
 rw [rS (by omega) (by omega),KR,Nat.add_sub_cancel_left]
theorem eN:∀(b:UInt8) (r:Str),Fp (b::r)≤(b::r).length
 |b,[]=>by simp only [Fp,ZJ];split<;>simp
 |b,c::r=>by
  simp only [Fp]
  cases ZK b c
  · simp only [ZJ,AU,if_false];split<;>simp
  · simp
set_option maxHeartbeats 4000000 in
theorem eB (s:Str) (σ:AN):AQ Tryz.prog 29 [.d (.str s)] σ (fun v σ'=>v=H6 (BG s)∧σ'=σ):=by
 refine gL (by simp) ?_
 rw [BB]
 by_cases hl:s.length>16384
 · (repeat' (first|refine Run.ct rfl ?_|((first|refine Run.reg mixed ?_|refine Run.AL ?_|refine Run.Ad Gn (AN.le_refl _) ?_)<;>try simp -implicitDefEqProofs only [pH,decide_eq_true hl,go_sem])|fail))
   simp [H6,BG,hl]
 · (repeat' (first|refine Run.ct rfl ?_|((first|refine Run.reg mixed ?_|refine Run.AL ?_)<;>try simp -implicitDefEqProofs only [pH,decide_eq_false hl,go_sem])|fail))
   refine Run.Bb ?_
   refine Run.Bh ((fun (a0:AV)=>fun (y:Nat×AV×AN)=>put 0 a0 (put 5 (y.2.1) (put 6 (.d (.int .i64 y.1)) U))) _) (fun _=>E) (fun y=>y.2.2) (fun y=>y.1≤s.length∧∃acc n,EW σ 58 3 (acc.map Tok.enc) y.2.1 y.2.2∧acc.length≤y.1∧s.length - y.1 < n∧BG s=DW n (s.drop y.1) y.1 acc) (fun y=>s.length - y.1) ?_ (0,.AX,σ) ⟨by simp,[],s.length+1,EW.nil _ _ _,by simp,by simp,by simp [BG,hl]⟩
   rintro ⟨i,v,σ1⟩ ⟨hi,acc,n,ho,hac,hn,hs⟩ ih
   simp only at hi ho hac hn hs
   obtain ⟨n,rfl⟩:∃m,n=m+1:=⟨n - 1,by omega⟩
   by_cases hlt:i < s.length
   · obtain ⟨x,hx⟩:=Cd hlt
     rw [E5 hx,DW] at hs
     have hw1:=BN (show i+1≤9000000000000000000 by omega)
     have hsl:(x::s.drop (i+1)).length=s.length - i:=by simp;omega
     cases hb:T9 x.toNat with
     |true=>
      rw [hb,if_pos rfl] at hs
      (repeat' (first|refine Run.ct rfl ?_|((first|refine Run.reg mixed ?_|refine Run.AL ?_|(refine AR rfl (fun h=>?_) (fun h=>?_)<;>try (cases h;done)))<;>try simp -implicitDefEqProofs only [BU hlt,Cv hx,hw1,go_sem])|(refine ⟨fun h=>?_,fun h=>?_⟩<;>first|(cases h;done)|try simp only [h])|fail))
      all_goals first
       |exact ih (i+1,v,σ1) ⟨hlt,acc,n,ho,by simp only;omega,by simp only;omega,hs⟩ (by simp only;omega)
       |(exfalso;simp_all [T9];done)
     |false=>
      rw [hb,if_neg (by simp)] at hs
      simp only [T9,Dk] at hb
      obtain ⟨⟨⟨h9,h10⟩,h13⟩,h32⟩:=hb
      cases hc:(x==35) with
      |true=>
       rw [hc,if_pos rfl] at hs
       (repeat' (first|refine Run.ct rfl ?_|((first|refine Run.reg mixed ?_|refine Run.AL ?_)<;>try simp -implicitDefEqProofs only [BU hlt,Cv hx,h9,h10,h13,h32,QH,hc,go_sem])|fail))
       refine Run.Of [0,5,6] ?_;simp -implicitDefEqProofs only [go_sem]
       refine Run.Bb ?_
       refine Run.Bh ((fun (a0:AV) (a5:AV)=>fun (j:Nat)=>put 0 a0 (put 5 a5 (put 6 (.d (.int .i64 j)) U))) _ _) (fun _=>E) (fun _=>σ1) (fun j=>i≤j∧j≤s.length∧∀q b,q < j - i→(s.drop i)[q]?=some b→(!(b==10))=true) (fun j=>s.length - j) ?_ i ⟨A7 i,hi,by intro q b hq;omega⟩
       rintro j ⟨hij,hj,hall⟩ ih2
       have hw2:=BN (show j+1≤9000000000000000000 by omega)
       have hend:(∀z,s[j]?=some z→(z==10)=true)→j≠i∧BG s=DW n (s.drop j) j acc:=fun hz=>by
        have hji:j≠i:=fun e=>by
         subst e
         have h10:=hz x hx
         simp only [beq_iff_eq] at hc h10
         rw [hc] at h10;exact absurd h10 (by decide)
        have hk:cmt (x::s.drop (i+1))=j - i:=by
         rw [← E5 hx,cmt,Ei hall (by simp;omega) (fun b hb=>by
          rw [BH,show i+(j - i)=j by omega] at hb
          simp [hz b hb])]
         simp;omega
        rw [hk,← E5 hx,CA,show i+(j - i)=j by omega] at hs
        exact ⟨hji,hs⟩
       by_cases hjl:j < s.length
       · obtain ⟨z,hz⟩:=Cd hjl
         have hz2:(s.drop i)[j - i]?=some z:=by rw [BH,show i+(j - i)=j by omega];exact hz
         cases h10:(z==10) with
         |true=>
          obtain ⟨hji,hs⟩:=hend (fun z' hz'=>by rw [hz] at hz';cases hz';exact h10)
          (repeat' (first|refine Run.ct rfl ?_|((first|refine Run.reg mixed ?_|refine Run.AL ?_)<;>try simp -implicitDefEqProofs only [BU hjl,Cv hz,bW,bne,h10,go_sem])|fail))
          refine Run.Of [0,5,6] ?_;simp -implicitDefEqProofs only [go_sem]
          exact ih (j,v,σ1) ⟨hj,acc,n,ho,by simp only;omega,by simp only;omega,hs⟩ (by simp only;omega)
         |false=>
          (repeat' (first|refine Run.ct rfl ?_|((first|refine Run.reg mixed ?_|refine Run.AL ?_)<;>try simp -implicitDefEqProofs only [BU hjl,Cv hz,bW,bne,h10,hw2,go_sem])|fail))
          refine ih2 (j+1) ⟨by omega,hjl,fun q b hq hb=>?_⟩ (by omega)
          rcases Cc q (j - i) with h2|h2
          · exact hall q b h2 hb
          · have:q=j - i:=by omega
            subst this
            rw [hz2] at hb;cases hb;simp [h10]
       · obtain ⟨hji,hs⟩:=hend (fun z hz=>by rw [JU (by omega)] at hz;cases hz)
         (repeat' (first|refine Run.ct rfl ?_|((first|refine Run.reg mixed ?_|refine Run.AL ?_)<;>try simp -implicitDefEqProofs only [FR hjl,go_sem])|fail))
         refine Run.Of [0,5,6] ?_;simp -implicitDefEqProofs only [go_sem]
         exact ih (j,v,σ1) ⟨hj,acc,n,ho,by simp only;omega,by simp only;omega,hs⟩ (by simp only;omega)
      |false=>
       rw [hc,if_neg (by simp)] at hs
       have hld:s.drop i=x::s.drop (i+1):=E5 hx
       have hss:SI (.d (.str s)) (some (.d (.int .i64 (i:Int)))) none=some (.d (.str (x::s.drop (i+1)))):=by rw [rT hi,hld]
       -- behind a token
       have next:∀(k:Int) (t:Str) (v2:AV) (σ2:AN),D0 (x::s.drop (i+1))= .ok (k,t)→EW σ 58 3 (acc.map Tok.enc++[[.int .i64 k,.str t,.int .i64 i]]) v2 σ2→
        1≤t.length∧i+t.length≤s.length∧(i+t.length≤s.length∧∃acc n,EW σ 58 3 (acc.map Tok.enc) v2 σ2∧acc.length≤i+t.length∧s.length - (i+t.length) < n∧BG s=DW n (s.drop (i+t.length)) (i+t.length) acc):=fun k t v2 σ2 hsc ho2=>by
        have hsn:=Oy hsc
        rw [hsl] at hsn
        rw [hsc] at hs
        refine ⟨hsn.1,by omega,by omega,acc++[⟨k,t,i⟩],n,by simpa [Tok.enc] using ho2,by simp only [AA,List.length_singleton];omega,by omega,?_⟩
        rw [hs];simp only;rw [← E5 hx,CA]
       have fail:∀e:Int,D0 (x::s.drop (i+1))= .error e→BG s=([],i,e):=fun e he=>by rw [hs,he]
       have hwd:=eQ (c:=CH GC) s i hi
       have hdd:=eQ (c:=CH Ec) s i hi
       have hsg:=rU s i (Fp (x::s.drop (i+1))) hi (by rw [hld];exact eN _ _)
       have hwl:=Eb (CH GC) (s.drop i)
       have hdl:=Eb (CH Ec) (s.drop i)
       have hsl2:=eN x (s.drop (i+1))
       have hL1:=YA s i x hx
       have hL2:=YB s i x hx
       rw [hld] at hwd hdd hsg hwl hdl hL1 hL2
       simp only [hsl] at hwl hdl hsl2
       have hw0:=fun n (h:n≤s.length - i)=>wrap_add (show i+n≤9000000000000000000 by omega)
       have hap:∀(r:List DV),r.length=3→∀q∈[r],q.length=3:=fun r hr q hq=>by rw [Di] at hq;rw [hq];exact hr
       have gt24':=z7
       have gt1':=gt1
       by_cases hlu:(MM x.toNat||KM x.toNat)=true
       · have hwx:CH GC x=true:=by rw [cB,hlu];rfl
         have hsc:D0 (x::s.drop (i+1))=if decide (((x::s.drop (i+1)).takeWhile (CH GC)).length>24) then .error 9
                                                                                 else if KM x.toNat then .ok (2,(x::s.drop (i+1)).takeWhile (CH GC))
                                                                                 else if Ro ((x::s.drop (i+1)).takeWhile (CH GC)) then .ok (4,(x::s.drop (i+1)).takeWhile (CH GC))
                                                                                 else .ok (1,(x::s.drop (i+1)).takeWhile (CH GC)):=by rw [D0,if_pos hlu]
         have hL:=fun K k=>hL1 hwx (by omega) σ1 v (.d (.int .u8 x.toNat)) K k
         generalize ((x::s.drop (i+1)).takeWhile (CH GC))=w at hwd hwl hsc hL
         have hwn:=hw0 w.length hwl
         cases hup:KM x.toNat<;>cases hlo:MM x.toNat<;>rw [hup] at hsc<;>first|(simp only [hup,hlo,Bool.or_self,AU] at hlu;done)|skip
         all_goals (repeat' (first|refine Run.ct rfl ?_|((first|refine Run.reg mixed ?_|refine Run.AL ?_|(refine Run.Bb ?_;refine Run.Of [0,5,6,7,8] ?_;simp -implicitDefEqProofs only [go_sem];refine hL _ _ ?_)|(refine LP.own ho rfl (by simp) (by simp;omega) (by decide) (fun v2 σ2 ho2 hbk=>?_))|(refine Run.Ad Gn ho.le ?_)|refine AH.det (IZ _ _) ?_|refine AH.det (I0 _ _) ?_|refine AH.det (ZD _ _) ?_)<;>try simp -implicitDefEqProofs only [hup,hlo,BU hlt,Cv hx,h9,h10,h13,h32,QH,hc,hwn,hwd,gt24',ho.BQ,AU,go_sem])|(refine ⟨fun h=>?_,fun h=>?_⟩<;>first|(cases h;done)|try simp only [h])|fail))
         all_goals first
          |(obtain ⟨p1,p2,p3⟩:=next _ w _ _ (by rw [hsc];simp only [*,AU,reduceIte,BA,DZ,BE,EU,I5,I4]) ho2;exact ih (i+w.length,_,_) p3 (by simp only;omega))
          |(rw [fail 9 (by rw [hsc];simp only [*,AU,reduceIte,BA,DZ,BE,EU,I5,I4])];simp [H6];done)
       · simp only [QW,Dk] at hlu
         have hnlu:¬(MM x.toNat||KM x.toNat)=true:=by simp [hlu]
         cases hdg:Ec x.toNat with
         |true=>
          have hsc:D0 (x::s.drop (i+1))=if x==48&&decide (((x::s.drop (i+1)).takeWhile (CH Ec)).length>1) then .error 2
                                                                                         else if (Es ((x::s.drop (i+1)).takeWhile (CH Ec)) 0).isSome then .ok (3,(x::s.drop (i+1)).takeWhile (CH Ec))
                                                                                         else .error 9:=by rw [D0,if_neg hnlu,if_pos hdg]
          have hL:=fun K k=>hL2 hdg (by omega) σ1 v (.d (.int .u8 x.toNat)) K k
          generalize ((x::s.drop (i+1)).takeWhile (CH Ec))=w at hdd hdl hsc hL
          have hwn:=hw0 w.length hdl
          have hval:=eC w σ1 (by omega)
          cases hv:Es w 0 with
          |some z=>
           rw [hv] at hval
           (repeat' (first|refine Run.ct rfl ?_|((first|refine Run.reg mixed ?_|refine Run.AL ?_|(refine Run.Bb ?_;refine Run.Of [0,5,6,7,8] ?_;simp -implicitDefEqProofs only [go_sem];refine hL _ _ ?_)|(refine LP.own ho rfl (by simp) (by simp;omega) (by decide) (fun v2 σ2 ho2 hbk=>?_))|(refine Run.Ad Gn ho.le ?_)|refine AH.det (IZ _ _) ?_|refine AH.det (I0 _ _) ?_|refine AH.det (HD _ _) ?_|refine AH.det (hval) ?_|(refine AR rfl (fun h=>?_) (fun h=>?_)<;>try (cases h;done)))<;>try simp -implicitDefEqProofs only [BU hlt,Cv hx,h9,h10,h13,h32,QH,hc,hwn,hdd,gt1',r4,hlu.1,hlu.2,hdg,ho.BQ,AU,go_sem])|(refine ⟨fun h=>?_,fun h=>?_⟩<;>first|(cases h;done)|try simp only [h])|fail))
           all_goals first
            |(obtain ⟨p1,p2,p3⟩:=next _ w _ _ (by rw [hsc];simp only [*,AU,reduceIte,BA,DZ,BE,EU,I5,I4]) ho2;exact ih (i+w.length,_,_) p3 (by simp only;omega))
            |(rw [fail 2 (by rw [hsc];simp only [*,AU,reduceIte,BA,DZ,BE,EU,I5,I4])];simp [H6];done)
          |none=>
           rw [hv] at hval
           (repeat' (first|refine Run.ct rfl ?_|((first|refine Run.reg mixed ?_|refine Run.AL ?_|(refine Run.Bb ?_;refine Run.Of [0,5,6,7,8] ?_;simp -implicitDefEqProofs only [go_sem];refine hL _ _ ?_)|(refine LP.own ho rfl (by simp) (by simp;omega) (by decide) (fun v2 σ2 ho2 hbk=>?_))|(refine Run.Ad Gn ho.le ?_)|refine AH.det (IZ _ _) ?_|refine AH.det (I0 _ _) ?_|refine AH.det (HD _ _) ?_|refine AH.det (hval) ?_|(refine AR rfl (fun h=>?_) (fun h=>?_)<;>try (cases h;done)))<;>try simp -implicitDefEqProofs only [BU hlt,Cv hx,h9,h10,h13,h32,QH,hc,hwn,hdd,gt1',r4,hlu.1,hlu.2,hdg,ho.BQ,AU,go_sem])|(refine ⟨fun h=>?_,fun h=>?_⟩<;>first|(cases h;done)|try simp only [h])|fail))
           all_goals first
            |(rw [fail 2 (by rw [hsc];simp only [*,AU,reduceIte,BA,DZ,BE,EU,I5,I4])];simp [H6];done)
            |(rw [fail 9 (by rw [hsc];simp only [*,AU,reduceIte,BA,DZ,BE,EU,I5,I4])];simp [H6];done)
         |false=>
          have hsc:D0 (x::s.drop (i+1))=if (x::s.drop (i+1)).take (Fp (x::s.drop (i+1)))==[] then .error 2 else .ok (5,(x::s.drop (i+1)).take (Fp (x::s.drop (i+1)))):=by rw [D0,if_neg hnlu,if_neg (by simp [hdg])]
          have hsk:=iM (x::s.drop (i+1)) σ1 (by simp)
          have hwn:=hw0 (Fp (x::s.drop (i+1))) hsl2
          have htl:((x::s.drop (i+1)).take (Fp (x::s.drop (i+1)))).length=Fp (x::s.drop (i+1)):=by rw [BY,hsl];omega
          generalize Fp (x::s.drop (i+1))=m at hsc hsk hwn hsg hsl2 htl
          generalize ((x::s.drop (i+1)).take m)=w at hsc hsg htl
          have hz:((m:Int)==0)=(w==[]):=by
           rw [Dd];simp only [beq_iff_eq]
           rw [← Wq,htl];omega
          cases hw:(w==[]) with
          |true=>
           (repeat' (first|refine Run.ct rfl ?_|((first|refine Run.reg mixed ?_|refine Run.AL ?_|(refine Run.Ad Gn ho.le ?_)|refine AH.det (IZ _ _) ?_|refine AH.det (I0 _ _) ?_|refine AH.det (HD _ _) ?_|refine AH.det (hsk) ?_)<;>try simp -implicitDefEqProofs only [BU hlt,Cv hx,h9,h10,h13,h32,QH,hc,hss,hwn,hsg,hlu.1,hlu.2,hdg,hz,hw,ho.BQ,AU,go_sem])|fail))
           rw [fail 2 (by rw [hsc,if_pos hw])];simp [H6]
          |false=>
           (repeat' (first|refine Run.ct rfl ?_|((first|refine Run.reg mixed ?_|refine Run.AL ?_|(refine LP.own ho rfl (by simp) (by simp;omega) (by decide) (fun v2 σ2 ho2 hbk=>?_))|(refine Run.Ad Gn ho.le ?_)|refine AH.det (IZ _ _) ?_|refine AH.det (I0 _ _) ?_|refine AH.det (HD _ _) ?_|refine AH.det (hsk) ?_)<;>try simp -implicitDefEqProofs only [BU hlt,Cv hx,h9,h10,h13,h32,QH,hc,hss,hwn,hsg,hlu.1,hlu.2,hdg,hz,hw,ho.BQ,AU,go_sem])|fail))
           obtain ⟨p1,p2,p3⟩:=next 5 w _ _ (by rw [hsc,if_neg (by simp [hw])]) ‹_›
           rw [htl] at p1 p2 p3
           exact ih (i+m,_,_) p3 (by simp only;omega)
   · have hge:i=s.length:=by omega
     rw [hge,QX,DW] at hs
     (repeat' (first|refine Run.ct rfl ?_|((first|refine Run.reg mixed ?_|refine Run.AL ?_|(refine LP.own ho rfl (by simp) (by simp;omega) (by decide) (fun v2 σ2 ho2 hbk=>?_))|(refine Run.Ad Gn ho2.le ?_))<;>try simp -implicitDefEqProofs only [FR hlt,go_sem])|fail))
     simp -implicitDefEqProofs only [ho2.At,ho2.plain,go_sem]
     rw [hs];simp [H6,Tok.enc]
end Go.Ab
