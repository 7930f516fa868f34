/- The parser: types. Texts split into tokens, as the reference does it. Conditions: none. -/
import Derived.Test.YtifplkldbbcldaaGreatDoorXDt
set_option linter.unusedSimpArgs false
set_option linter.unusedVariables false
set_option maxRecDepth 4000
set_option maxHeartbeats 8000000
open List renaming map_cons→AF,map_nil→AI,mem_map→Im,length_pos_iff→Aq,length_map→AG,length_cons→AB,length_nil→AE,map_append→Bp,getElem?_drop→BM,getElem?_eq_none→Jb,getElem?_eq_some_iff→Aa,length_drop→An,drop_take→Kc,drop_drop→CJ,length_append→AA,mem_singleton→Dv,length_take→B4,length_eq_zero_iff→Xn,drop_length→Qx
open Bool renaming false_eq_true→AW,or_eq_false_iff→Dw,and_true→BH,and_false→D9,true_and→BJ,false_and→E5,not_eq_true→Qw,eq_iff_iff→Dn
open Nat renaming lt_or_ge→Cm,add_zero→E6,le_refl→A9
open Option renaming isSome_some→Iq,isSome_none→Ip
namespace Go.Ab
open Go.Proofs
variable {α β:Type}
theorem run_bind (m:PM α) (k:α→PM β) (s:PSt):(m.bind k).run s=(k (m.run s).1).run (m.run s).2:=rfl
theorem run_pure (a:α) (s:PSt):(PM.pure a).run s=(a,s):=rfl
theorem vN (a:α) (s:PSt):(PM.fail a).run s=(a,s.fail):=rfl
theorem run_map (g:α→β) (m:PM α) (s:PSt):(m.map g).run s=(g (m.run s).1,(m.run s).2):=rfl
theorem iU (k:Int) (y n:PM α) (s:PSt):(PM.kind k y n).run s=if (s.hd.kind==k)=true then y.run s else n.run s:=rfl
theorem H5 (t:Str) (ht:t≠[]) (y n:PM α) (s:PSt):(PM.acc t ht y n).run s=if (s.hd.text==t)=true then y.run s.adv else n.run s:=rfl
theorem DL (i:Nat) (L:List Tok) (n:Nat) (t:Str) (ht:t≠[]):PC 127 [.gp i 0,.d (.str t)] i L n (PM.exp t ht) (fun _=>.tup []):=fun σ s _ h1 _ h3=>U0 h1 t ht σ h3
theorem Ss (i:Nat) (L:List Tok) (n:Nat):PC 124 [.gp i 0,.d (.int .i64 2)] i L n FY (fun x=>.d (.str x)):=eX i L n 2 (by decide)
theorem nC (i:Nat) (L:List Tok) (n:Nat) {T:PM TE} (hT:PC 168 [.gp i 0] i L n T teA) (k:Int):PC 184 [.gp i 0,.d (.int .i64 k)] i L n (S5 k T) teA:=by
 intro σ s0 g0 h0 l0 b0
 refine Oz (by simp) ?_
 rw [BP]
 simp only [S5,run_bind,run_pure,teA,TE.A2,AF,AI]
 (have c0:=(DL i L n [40] (by decide)) σ s0 g0 h0 (by omega) b0;have h1:=h0.run (PM.exp [40] (by decide));have l1:=PM.le (PM.exp [40] (by decide)) h0.wf;generalize (PM.exp [40] (by decide)).run s0=y at c0 h1 l1 ⊢;obtain ⟨x0,s1⟩:=y;simp only at c0 h1 l1 ⊢;have b1:(σ.AL i (psA L s1)).blk i=some (psA L s1):=(by rw [AO,if_pos rfl]))
 (have c1:=hT (σ.AL i (psA L s1)) s1 g0 h1 (by omega) b1;rw [A4] at c1;have h2:=h1.run (T);have l2:=PM.le (T) h1.wf;generalize (T).run s1=y at c1 h2 l2 ⊢;obtain ⟨x1,s2⟩:=y;simp only at c1 h2 l2 ⊢;have b2:(σ.AL i (psA L s2)).blk i=some (psA L s2):=(by rw [AO,if_pos rfl]);obtain ⟨k0,n0,a0⟩:=x1;simp only [teA,TE.A2,AF,AI] at c1 ⊢)
 (have c2:=(DL i L n [41] (by decide)) (σ.AL i (psA L s2)) s2 g0 h2 (by omega) b2;rw [A4] at c2;have h3:=h2.run (PM.exp [41] (by decide));have l3:=PM.le (PM.exp [41] (by decide)) h2.wf;generalize (PM.exp [41] (by decide)).run s2=y at c2 h3 l3 ⊢;obtain ⟨x2,s3⟩:=y;simp only at c2 h3 l3 ⊢;have b3:(σ.AL i (psA L s3)).blk i=some (psA L s3):=(by rw [AO,if_pos rfl]))
 (repeat' (first|refine Run.ct rfl ?_|((first|refine Run.reg mixed ?_|refine Run.AJ ?_|refine Run.Ad Ic (AM.le_refl _) ?_|(refine AH.upd c0 ?_)|(refine AH.upd c1 ?_)|(refine AH.upd c2 ?_)|(refine AQ rfl (fun h=>?_) (fun h=>?_)<;>try (cases h;done)))<;>try simp -implicitDefEqProofs only [go_sem])|(refine ⟨fun h=>?_,fun h=>?_⟩<;>first|(cases h;done)|try simp only [h])|fail))
theorem TE.gT (t:TE):t.enc.length=3:=by cases t;rw [TE.A2];rfl
theorem NU {α:Type} {enc:α→List DV} (z:Nat) (l:List α) (h:∀x,(enc x).length=z):∀r∈l.map enc,r.length=z:=fun r hr=>by
 obtain ⟨x,_,rfl⟩:=Im.1 hr
 exact h x
theorem Y7:Aw Tryz.prog 168=true:=by kernel_rfl
set_option maxHeartbeats 4000000 in
theorem wB (i:Nat) (L:List Tok):∀n,PC 168 [.gp i 0] i L n (Fy n) teA
 |0=>fun σ s _ h1 h2 h3=>by have:=Aq.2 h1.wf.ne;omega
 |n+1=>by
  have ih:=wB i L n
  intro σ s0 g0 h0 l0 b0
  refine T5 (by simp) ?_
  rw [Av]
  have hpk:=QU h0 σ b0
  rw [Fy]
  simp only [iU,H5]
  cases hk1:s0.hd.kind==1 with
  |true=>
   simp only [if_true,run_bind,run_pure,teA,TE.A2,AF,AI]
   (have c0:=(QR i L (n+1)) σ s0 g0 h0 (by omega) b0;have h1:=h0.run (Fj);have l1:=PM.le (Fj) h0.wf;generalize (Fj).run s0=y at c0 h1 l1 ⊢;obtain ⟨x0,s1⟩:=y;simp only at c0 h1 l1 ⊢;have b1:(σ.AL i (psA L s1)).blk i=some (psA L s1):=(by rw [AO,if_pos rfl]))
   (repeat' (first|refine Run.ct rfl ?_|((first|refine Run.reg mixed ?_|refine Run.AJ ?_|refine Run.Ad BT (AM.le_refl _) ?_|(refine AH.upd c0 ?_)|refine AH.det (hpk) ?_|(refine AQ rfl (fun h=>?_) (fun h=>?_)<;>try (cases h;done)))<;>try simp -implicitDefEqProofs only [hk1,go_sem])|(refine ⟨fun h=>?_,fun h=>?_⟩<;>first|(cases h;done)|try simp only [h])|fail))
  |false=>
  cases hk2:s0.hd.kind==2 with
  |true=>
   simp only [if_true,if_false,AW,run_bind,run_pure,teA,TE.A2,AF,AI]
   (have c0:=(Ss i L (n+1)) σ s0 g0 h0 (by omega) b0;have h1:=h0.run (FY);have l1:=PM.le (FY) h0.wf;generalize (FY).run s0=y at c0 h1 l1 ⊢;obtain ⟨x0,s1⟩:=y;simp only at c0 h1 l1 ⊢;have b1:(σ.AL i (psA L s1)).blk i=some (psA L s1):=(by rw [AO,if_pos rfl]))
   (have c1:=(JZ i L n Y7 ih).pc (σ.AL i (psA L s1)) s1 g0 h1 (by omega) b1;rw [A4] at c1;have h2:=h1.run (IZ (Fy n));have l2:=PM.le (IZ (Fy n)) h1.wf;generalize (IZ (Fy n)).run s1=y at c1 h2 l2 ⊢;obtain ⟨x1,s2⟩:=y;simp only at c1 h2 l2 ⊢;have b2:(σ.AL i (psA L s2)).blk i=some (psA L s2):=(by rw [AO,if_pos rfl]))
   (repeat' (first|refine Run.ct rfl ?_|((first|refine Run.reg mixed ?_|refine Run.AJ ?_|refine Run.Ad BT (AM.le_refl _) ?_|(refine AH.upd c0 ?_)|(refine AH.upd c1 ?_)|refine AH.det (hpk) ?_|(refine AQ rfl (fun h=>?_) (fun h=>?_)<;>try (cases h;done)))<;>try simp -implicitDefEqProofs only [hk1,hk2,go_sem])|(refine ⟨fun h=>?_,fun h=>?_⟩<;>first|(cases h;done)|try simp only [h])|fail))
  |false=>
  simp only [if_false,AW]
  cases t1:s0.hd.text==[105,110,116] with
  |true=>
   simp only [if_true,run_pure,teA,TE.A2,AF,AI]
   (have c0:=DK h0 [105,110,116] σ b0 t1;have h1:=h0.adv (t:=[105,110,116]) (by decide) t1;have l1:=BX h0.wf;generalize s0.adv=s1 at c0 h1 l1 ⊢;have b1:(σ.AL i (psA L s1)).blk i=some (psA L s1):=by rw [AO,if_pos rfl])
   (repeat' (first|refine Run.ct rfl ?_|((first|refine Run.reg mixed ?_|refine Run.AJ ?_|refine Run.Ad BT (AM.le_refl _) ?_|(refine AH.upd c0 ?_)|refine AH.det (hpk) ?_|(refine AQ rfl (fun h=>?_) (fun h=>?_)<;>try (cases h;done)))<;>try simp -implicitDefEqProofs only [hk1,hk2,go_sem])|(refine ⟨fun h=>?_,fun h=>?_⟩<;>first|(cases h;done)|try simp only [h])|fail))
  |false=>
  have f1:=DJ h0 _ σ b0 t1
  cases t2:s0.hd.text==[98,111,111,108] with
  |true=>
   simp only [if_true,if_false,AW,run_pure,teA,TE.A2,AF,AI]
   (have c0:=DK h0 [98,111,111,108] σ b0 t2;have h1:=h0.adv (t:=[98,111,111,108]) (by decide) t2;have l1:=BX h0.wf;generalize s0.adv=s1 at c0 h1 l1 ⊢;have b1:(σ.AL i (psA L s1)).blk i=some (psA L s1):=by rw [AO,if_pos rfl])
   (repeat' (first|refine Run.ct rfl ?_|((first|refine Run.reg mixed ?_|refine Run.AJ ?_|refine Run.Ad BT (AM.le_refl _) ?_|(refine AH.upd c0 ?_)|refine AH.det (hpk) ?_|refine AH.det (f1) ?_|(refine AQ rfl (fun h=>?_) (fun h=>?_)<;>try (cases h;done)))<;>try simp -implicitDefEqProofs only [hk1,hk2,go_sem])|(refine ⟨fun h=>?_,fun h=>?_⟩<;>first|(cases h;done)|try simp only [h])|fail))
  |false=>
  have f2:=DJ h0 _ σ b0 t2
  cases t3:s0.hd.text==[117,110,105,116] with
  |true=>
   simp only [if_true,if_false,AW,run_pure,teA,TE.A2,AF,AI]
   (have c0:=DK h0 [117,110,105,116] σ b0 t3;have h1:=h0.adv (t:=[117,110,105,116]) (by decide) t3;have l1:=BX h0.wf;generalize s0.adv=s1 at c0 h1 l1 ⊢;have b1:(σ.AL i (psA L s1)).blk i=some (psA L s1):=by rw [AO,if_pos rfl])
   (repeat' (first|refine Run.ct rfl ?_|((first|refine Run.reg mixed ?_|refine Run.AJ ?_|refine Run.Ad BT (AM.le_refl _) ?_|(refine AH.upd c0 ?_)|refine AH.det (hpk) ?_|refine AH.det (f1) ?_|refine AH.det (f2) ?_|(refine AQ rfl (fun h=>?_) (fun h=>?_)<;>try (cases h;done)))<;>try simp -implicitDefEqProofs only [hk1,hk2,go_sem])|(refine ⟨fun h=>?_,fun h=>?_⟩<;>first|(cases h;done)|try simp only [h])|fail))
  |false=>
  have f3:=DJ h0 _ σ b0 t3
  cases t4:s0.hd.text==[97,114,114,97,121] with
  |true=>
   simp only [if_true,if_false,AW]
   (have c0:=DK h0 [97,114,114,97,121] σ b0 t4;have h1:=h0.adv (t:=[97,114,114,97,121]) (by decide) t4;have l1:=BX h0.wf;generalize s0.adv=s1 at c0 h1 l1 ⊢;have b1:(σ.AL i (psA L s1)).blk i=some (psA L s1):=by rw [AO,if_pos rfl])
   (have c1:=(nC i L n ih 7) (σ.AL i (psA L s1)) s1 g0 h1 (by omega) b1;rw [A4] at c1;have h2:=h1.run (S5 7 (Fy n));have l2:=PM.le (S5 7 (Fy n)) h1.wf;generalize (S5 7 (Fy n)).run s1=y at c1 h2 l2 ⊢;obtain ⟨x1,s2⟩:=y;simp only at c1 h2 l2 ⊢;have b2:(σ.AL i (psA L s2)).blk i=some (psA L s2):=(by rw [AO,if_pos rfl]);obtain ⟨k0,n0,a0⟩:=x1;simp only [teA,TE.A2,AF,AI] at c1 ⊢)
   (repeat' (first|refine Run.ct rfl ?_|((first|refine Run.reg mixed ?_|refine Run.AJ ?_|refine Run.Ad BT (AM.le_refl _) ?_|(refine AH.upd c0 ?_)|(refine AH.upd c1 ?_)|refine AH.det (hpk) ?_|refine AH.det (f1) ?_|refine AH.det (f2) ?_|refine AH.det (f3) ?_|(refine AQ rfl (fun h=>?_) (fun h=>?_)<;>try (cases h;done)))<;>try simp -implicitDefEqProofs only [hk1,hk2,go_sem])|(refine ⟨fun h=>?_,fun h=>?_⟩<;>first|(cases h;done)|try simp only [h])|fail))
  |false=>
  have f4:=DJ h0 _ σ b0 t4
  cases t5:s0.hd.text==[114,101,102] with
  |true=>
   simp only [if_true,if_false,AW]
   (have c0:=DK h0 [114,101,102] σ b0 t5;have h1:=h0.adv (t:=[114,101,102]) (by decide) t5;have l1:=BX h0.wf;generalize s0.adv=s1 at c0 h1 l1 ⊢;have b1:(σ.AL i (psA L s1)).blk i=some (psA L s1):=by rw [AO,if_pos rfl])
   (have c1:=(nC i L n ih 8) (σ.AL i (psA L s1)) s1 g0 h1 (by omega) b1;rw [A4] at c1;have h2:=h1.run (S5 8 (Fy n));have l2:=PM.le (S5 8 (Fy n)) h1.wf;generalize (S5 8 (Fy n)).run s1=y at c1 h2 l2 ⊢;obtain ⟨x1,s2⟩:=y;simp only at c1 h2 l2 ⊢;have b2:(σ.AL i (psA L s2)).blk i=some (psA L s2):=(by rw [AO,if_pos rfl]);obtain ⟨k0,n0,a0⟩:=x1;simp only [teA,TE.A2,AF,AI] at c1 ⊢)
   (repeat' (first|refine Run.ct rfl ?_|((first|refine Run.reg mixed ?_|refine Run.AJ ?_|refine Run.Ad BT (AM.le_refl _) ?_|(refine AH.upd c0 ?_)|(refine AH.upd c1 ?_)|refine AH.det (hpk) ?_|refine AH.det (f1) ?_|refine AH.det (f2) ?_|refine AH.det (f3) ?_|refine AH.det (f4) ?_|(refine AQ rfl (fun h=>?_) (fun h=>?_)<;>try (cases h;done)))<;>try simp -implicitDefEqProofs only [hk1,hk2,go_sem])|(refine ⟨fun h=>?_,fun h=>?_⟩<;>first|(cases h;done)|try simp only [h])|fail))
  |false=>
  have f5:=DJ h0 _ σ b0 t5
  cases t6:s0.hd.text==[40] with
  |true=>
   simp only [if_true,if_false,AW,run_bind,run_pure,teA,TE.A2,AF,AI]
   (have c0:=DK h0 [40] σ b0 t6;have h1:=h0.adv (t:=[40]) (by decide) t6;have l1:=BX h0.wf;generalize s0.adv=s1 at c0 h1 l1 ⊢;have b1:(σ.AL i (psA L s1)).blk i=some (psA L s1):=by rw [AO,if_pos rfl])
   (have c1:=ih (σ.AL i (psA L s1)) s1 g0 h1 (by omega) b1;rw [A4] at c1;have h2:=h1.run (Fy n);have l2:=PM.le (Fy n) h1.wf;generalize (Fy n).run s1=y at c1 h2 l2 ⊢;obtain ⟨x1,s2⟩:=y;simp only at c1 h2 l2 ⊢;have b2:(σ.AL i (psA L s2)).blk i=some (psA L s2):=(by rw [AO,if_pos rfl]);obtain ⟨k0,n0,a0⟩:=x1;simp only [teA,TE.A2,AF,AI] at c1 ⊢)
   (have c2:=(DL i L n [44] (by decide)) (σ.AL i (psA L s2)) s2 g0 h2 (by omega) b2;rw [A4] at c2;have h3:=h2.run (PM.exp [44] (by decide));have l3:=PM.le (PM.exp [44] (by decide)) h2.wf;generalize (PM.exp [44] (by decide)).run s2=y at c2 h3 l3 ⊢;obtain ⟨x2,s3⟩:=y;simp only at c2 h3 l3 ⊢;have b3:(σ.AL i (psA L s3)).blk i=some (psA L s3):=(by rw [AO,if_pos rfl]))
   (have d3:=fun tk:Nat=>(Ei i L n Y7 ih).pc ((σ.AL i (psA L s3)).D7 tk) s3 g0 h3 (by omega) (by rw [GJ];exact b3);have c3:=(Ei i L n Y7 ih).pc (σ.AL i (psA L s3)) s3 g0 h3 (by omega) b3;rw [A4] at c3;have h4:=h3.run (listed (Fy n));have l4:=PM.le (listed (Fy n)) h3.wf;have n3:=QP (read:=Fy n) h3.wf;generalize (listed (Fy n)).run s3=y at c3 d3 h4 l4 n3 ⊢;obtain ⟨x3,s4⟩:=y;simp only at c3 d3 h4 l4 n3 ⊢;have q3:=h0.suf.length_le;have q3':=h0.len)
   (repeat' (first|refine Run.ct rfl ?_|((first|refine Run.reg mixed ?_|refine Run.AJ ?_|(refine AH.upd c0 ?_)|(refine AH.upd c1 ?_)|(refine AH.upd c2 ?_)|refine AH.det (hpk) ?_|refine AH.det (f1) ?_|refine AH.det (f2) ?_|refine AH.det (f3) ?_|refine AH.det (f4) ?_|refine AH.det (f5) ?_|(refine AQ rfl (fun h=>?_) (fun h=>?_)<;>try (cases h;done)))<;>try simp -implicitDefEqProofs only [hk1,hk2,go_sem])|(refine ⟨fun h=>?_,fun h=>?_⟩<;>first|(cases h;done)|try simp only [h])|fail))
   refine Run.FZ mixed ?_;simp -implicitDefEqProofs only [go_sem]
   refine ⟨?_,?_⟩
   · refine I3.own rfl (by decide) (fun tk htk=>?_);simp -implicitDefEqProofs only [go_sem]
     refine AH.upd (d3 tk) ?_;simp -implicitDefEqProofs only [go_sem]
     (apply LS.tok (LS.xW htk s4);rfl;exact (NU _ _ TE.gT);(simp only [AG,AB,AE];omega);decide;intro v2 τ2 ho);simp -implicitDefEqProofs only [ho.own.BR,ho.own.Ay,ho.own.cells,ho.own.cell,ho.own.plain,ho.own.dv,if_true,go_sem]
     (repeat' (first|refine Run.ct rfl ?_|((first|refine Run.reg mixed ?_|refine Run.AJ ?_|(refine Run.Ad BT ho.le ?_)|(refine AQ rfl (fun h=>?_) (fun h=>?_)<;>try (cases h;done)))<;>try simp -implicitDefEqProofs only [ho.own.BR,ho.own.Ay,ho.own.cells,ho.own.cell,ho.own.plain,ho.own.dv,if_true,go_sem])|(refine ⟨fun h=>?_,fun h=>?_⟩<;>first|(cases h;done)|try simp only [h])|fail))
   · refine AH.upd c3 ?_;simp -implicitDefEqProofs only [go_sem]
     refine I3.own rfl (by decide) (fun tk htk=>?_);simp -implicitDefEqProofs only [go_sem]
     (apply LS.tok (LS.xV htk);rfl;exact (NU _ _ TE.gT);(simp only [AG,AB,AE];omega);decide;intro v2 τ2 ho);simp -implicitDefEqProofs only [ho.own.BR,ho.own.Ay,ho.own.cells,ho.own.cell,ho.own.plain,ho.own.dv,if_true,go_sem]
     (repeat' (first|refine Run.ct rfl ?_|((first|refine Run.reg mixed ?_|refine Run.AJ ?_|(refine Run.Ad BT ho.le ?_)|(refine AQ rfl (fun h=>?_) (fun h=>?_)<;>try (cases h;done)))<;>try simp -implicitDefEqProofs only [ho.own.BR,ho.own.Ay,ho.own.cells,ho.own.cell,ho.own.plain,ho.own.dv,if_true,go_sem])|(refine ⟨fun h=>?_,fun h=>?_⟩<;>first|(cases h;done)|try simp only [h])|fail))
  |false=>
  have f6:=DJ h0 _ σ b0 t6
  cases t7:s0.hd.text==[102,110] with
  |true=>
   simp only [if_true,if_false,AW,run_bind,run_pure,teA,TE.A2,AF,AI]
   (have c0:=DK h0 [102,110] σ b0 t7;have h1:=h0.adv (t:=[102,110]) (by decide) t7;have l1:=BX h0.wf;generalize s0.adv=s1 at c0 h1 l1 ⊢;have b1:(σ.AL i (psA L s1)).blk i=some (psA L s1):=by rw [AO,if_pos rfl])
   (have c1:=(DL i L n [40] (by decide)) (σ.AL i (psA L s1)) s1 g0 h1 (by omega) b1;rw [A4] at c1;have h2:=h1.run (PM.exp [40] (by decide));have l2:=PM.le (PM.exp [40] (by decide)) h1.wf;generalize (PM.exp [40] (by decide)).run s1=y at c1 h2 l2 ⊢;obtain ⟨x1,s2⟩:=y;simp only at c1 h2 l2 ⊢;have b2:(σ.AL i (psA L s2)).blk i=some (psA L s2):=(by rw [AO,if_pos rfl]))
   have c2:=Pt i L n Y7 ih (σ.AL i (psA L s2)) s2 g0 h2 (by omega) b2
   rw [A4] at c2
   have h3:=h2.run (closed (Fy n))
   have l3:=PM.le (closed (Fy n)) h2.wf
   have n2:=UZ (read:=Fy n) h2.wf
   have q2:=h0.suf.length_le
   have q3:=h0.len
   generalize (closed (Fy n)).run s2=y at c2 h3 l3 n2 ⊢
   obtain ⟨x2,s3⟩:=y
   simp only at c2 h3 l3 n2 ⊢
   (repeat' (first|refine Run.ct rfl ?_|((first|refine Run.reg mixed ?_|refine Run.AJ ?_|(refine AH.upd c0 ?_)|(refine AH.upd c1 ?_)|(refine AH.mk rfl c2 ?_;intro v1 τ1 ho1)|refine AH.det (hpk) ?_|refine AH.det (f1) ?_|refine AH.det (f2) ?_|refine AH.det (f3) ?_|refine AH.det (f4) ?_|refine AH.det (f5) ?_|refine AH.det (f6) ?_|(refine AQ rfl (fun h=>?_) (fun h=>?_)<;>try (cases h;done)))<;>try simp -implicitDefEqProofs only [hk1,hk2,go_sem])|(refine ⟨fun h=>?_,fun h=>?_⟩<;>first|(cases h;done)|try simp only [h])|fail))
   have hl1:=LS.of ho1
   have e3:=U0 h3 [45,62] (by decide) τ1 hl1.blk
   have hl2:=hl1.step ((PM.exp [45,62] (by decide)).run s3).2
   have h4:=h3.run (PM.exp [45,62] (by decide))
   have l4:=PM.le (PM.exp [45,62] (by decide)) h3.wf
   generalize (PM.exp [45,62] (by decide)).run s3=y at e3 hl2 h4 l4 ⊢
   obtain ⟨x3,s4⟩:=y
   simp only at e3 hl2 h4 l4 ⊢
   have c4:=ih (τ1.AL i (psA L s4)) s4 (hl1.gt g0) h4 (by omega) hl2.blk
   rw [A4] at c4
   have hl3:=hl1.step ((Fy n).run s4).2
   generalize (Fy n).run s4=y at c4 hl3 ⊢
   obtain ⟨x4,s5⟩:=y
   obtain ⟨k0,n0,a0⟩:=x4
   simp only [teA,TE.A2,AF,AI] at c4 hl3 ⊢
   (repeat' (first|refine Run.ct rfl ?_|((first|refine Run.reg mixed ?_|refine Run.AJ ?_|(refine AH.upd e3 ?_)|(refine AH.upd c4 ?_)|(refine AQ rfl (fun h=>?_) (fun h=>?_)<;>try (cases h;done)))<;>try simp -implicitDefEqProofs only [ho1.BR,go_sem])|(refine ⟨fun h=>?_,fun h=>?_⟩<;>first|(cases h;done)|try simp only [h])|fail))
   refine hl3.tok rfl (by simp) (by simp;omega) (by decide) (fun v2 τ2 ho=>?_);simp -implicitDefEqProofs only [ho.own.BR,ho.own.Ay,ho.own.cells,ho.own.cell,ho.own.plain,ho.own.dv,if_true,go_sem]
   (repeat' (first|refine Run.ct rfl ?_|((first|refine Run.reg mixed ?_|refine Run.AJ ?_|(refine Run.Ad BT ho.le ?_)|(refine AQ rfl (fun h=>?_) (fun h=>?_)<;>try (cases h;done)))<;>try simp -implicitDefEqProofs only [ho.own.BR,ho.own.Ay,ho.own.cells,ho.own.cell,ho.own.plain,ho.own.dv,if_true,Bp,AF,AI,TE.A2,go_sem])|(refine ⟨fun h=>?_,fun h=>?_⟩<;>first|(cases h;done)|try simp only [h])|fail))
  |false=>
  have f7:=DJ h0 _ σ b0 t7
  simp only [if_false,AW,vN,teA,TE.A2,AF,AI]
  (repeat' (first|refine Run.ct rfl ?_|((first|refine Run.reg mixed ?_|refine Run.AJ ?_|refine Run.Ad BT (AM.le_refl _) ?_|(refine AH.upd (VM h0 σ b0) ?_)|refine AH.det (hpk) ?_|refine AH.det (f1) ?_|refine AH.det (f2) ?_|refine AH.det (f3) ?_|refine AH.det (f4) ?_|refine AH.det (f5) ?_|refine AH.det (f6) ?_|refine AH.det (f7) ?_|(refine AQ rfl (fun h=>?_) (fun h=>?_)<;>try (cases h;done)))<;>try simp -implicitDefEqProofs only [hk1,hk2,go_sem])|(refine ⟨fun h=>?_,fun h=>?_⟩<;>first|(cases h;done)|try simp only [h])|fail))
end Go.Ab
namespace Go.Ab
open Go.Proofs
theorem fF (z:UInt8):CP GW z=(M9 z.toNat||K9 z.toNat||Em z.toNat||((z.toNat:Int)==95)):=rfl
theorem ZG (s:Str) (i:Nat) (x:UInt8) (hx:s[i]?=some x) (hw:CP GW x=true) (hl:s.length≤16384) (σ1:AM) (a5 a7:AV) (K:AV→AM→Prop) (k:List CI)
 (hk:Run GX K k (put 0 (.d (.str s)) (put 5 a5 (put 6 (.d (.int .i64 i)) (put 7 a7 (put 8 (.d (.int .i64 (((s.drop i).takeWhile (CP GW)).length:Nat))) U))))) E σ1):
 Run GX K (.again Tl::.blk 5::k) (put 0 (.d (.str s)) (put 5 a5 (put 6 (.d (.int .i64 i)) (put 7 a7 (put 8 (.d (.int .i64 1)) U))))) E σ1:=by
 refine Run.Bd ((fun (a0:AV) (a5:AV) (a6:AV) (a7:AV)=>fun (m:Nat)=>put 0 a0 (put 5 a5 (put 6 a6 (put 7 a7 (put 8 (.d (.int .i64 m)) U))))) _ _ _ _) (fun _=>E) (fun _=>σ1) (fun m=>1≤m∧i+m≤s.length∧∀q b,q < m→(s.drop i)[q]?=some b→CP GW b=true) (fun m=>s.length - m) ?_ 1 ⟨by omega,?_,?_⟩
 · rintro m ⟨h1,hm,hall⟩ ih
   have hw0:=wrap_add (show i+m≤9000000000000000000 by omega)
   have hw1:=BU (show m+1≤9000000000000000000 by omega)
   have hend:(∀b,(s.drop i)[m]?=some b→CP GW b=false)→((s.drop i).takeWhile (CP GW)).length=m:=fun h=>by
    rw [Eu hall (by simp;omega) h];simp;omega
   by_cases hlt:i+m < s.length
   · obtain ⟨z,hz⟩:=C7 hlt
     have hz2:(s.drop i)[m]?=some z:=by rw [BM];exact hz
     have hstep:CP GW z=true→∀q b,q < m+1→(s.drop i)[q]?=some b→CP GW b=true:=fun hc q b hq hb=>by
      rcases Cm q m with h2|h2
      · exact hall q b h2 hb
      · have:q=m:=by omega
        subst this;rw [hz2] at hb;cases hb;exact hc
     (repeat' (first|refine Run.ct rfl ?_|((first|refine Run.reg mixed ?_|refine Run.AJ ?_|refine AH.det (Ii _ _) ?_|refine AH.det (Ij _ _) ?_|refine AH.det (HT _ _) ?_|(refine AQ rfl (fun h=>?_) (fun h=>?_)<;>try (cases h;done)))<;>try simp -implicitDefEqProofs only [hw0,hw1,BZ hlt,DH hz,go_sem])|(refine ⟨fun h=>?_,fun h=>?_⟩<;>first|(cases h;done)|try simp only [h])|fail))
     all_goals first
      |exact ih (m+1) ⟨by omega,by omega,hstep (by simp_all [fF])⟩ (by omega)
      |(rw [hend (fun b hb=>by rw [hz2] at hb;cases hb;simp_all [fF])] at hk;refine Run.PN [0,5,6,7,8] ?_;simp -implicitDefEqProofs only [go_sem];exact hk)
   · (repeat' (first|refine Run.ct rfl ?_|((first|refine Run.reg mixed ?_|refine Run.AJ ?_)<;>try simp -implicitDefEqProofs only [hw0,FD hlt,go_sem])|fail))
     rw [hend (fun b hb=>by rw [BM,Jb (by omega)] at hb;cases hb)] at hk
     refine Run.PN [0,5,6,7,8] ?_;simp -implicitDefEqProofs only [go_sem]
     exact hk
 · have:=(Aa.1 hx).1;omega
 · intro q b hq hb
   have:q=0:=by omega
   subst this
   rw [BM,E6,hx] at hb;cases hb;exact hw
theorem ZH (s:Str) (i:Nat) (x:UInt8) (hx:s[i]?=some x) (hw:CP Em x=true) (hl:s.length≤16384) (σ1:AM) (a5 a7:AV) (K:AV→AM→Prop) (k:List CI)
 (hk:Run GX K k (put 0 (.d (.str s)) (put 5 a5 (put 6 (.d (.int .i64 i)) (put 7 a7 (put 8 (.d (.int .i64 (((s.drop i).takeWhile (CP Em)).length:Nat))) U))))) E σ1):
 Run GX K (.again Tm::.blk 7::k) (put 0 (.d (.str s)) (put 5 a5 (put 6 (.d (.int .i64 i)) (put 7 a7 (put 8 (.d (.int .i64 1)) U))))) E σ1:=by
 refine Run.Bd ((fun (a0:AV) (a5:AV) (a6:AV) (a7:AV)=>fun (m:Nat)=>put 0 a0 (put 5 a5 (put 6 a6 (put 7 a7 (put 8 (.d (.int .i64 m)) U))))) _ _ _ _) (fun _=>E) (fun _=>σ1) (fun m=>1≤m∧i+m≤s.length∧∀q b,q < m→(s.drop i)[q]?=some b→CP Em b=true) (fun m=>s.length - m) ?_ 1 ⟨by omega,?_,?_⟩
 · rintro m ⟨h1,hm,hall⟩ ih
   have hw0:=wrap_add (show i+m≤9000000000000000000 by omega)
   have hw1:=BU (show m+1≤9000000000000000000 by omega)
   have hend:(∀b,(s.drop i)[m]?=some b→CP Em b=false)→((s.drop i).takeWhile (CP Em)).length=m:=fun h=>by
    rw [Eu hall (by simp;omega) h];simp;omega
   by_cases hlt:i+m < s.length
   · obtain ⟨z,hz⟩:=C7 hlt
     have hz2:(s.drop i)[m]?=some z:=by rw [BM];exact hz
     have hstep:CP Em z=true→∀q b,q < m+1→(s.drop i)[q]?=some b→CP Em b=true:=fun hc q b hq hb=>by
      rcases Cm q m with h2|h2
      · exact hall q b h2 hb
      · have:q=m:=by omega
        subst this;rw [hz2] at hb;cases hb;exact hc
     cases hd:Em z.toNat with
     |true=>
      (repeat' (first|refine Run.ct rfl ?_|((first|refine Run.reg mixed ?_|refine Run.AJ ?_|refine AH.det (HT _ _) ?_)<;>try simp -implicitDefEqProofs only [hw0,hw1,BZ hlt,DH hz,hd,go_sem])|fail))
      exact ih (m+1) ⟨by omega,by omega,hstep hd⟩ (by omega)
     |false=>
      (repeat' (first|refine Run.ct rfl ?_|((first|refine Run.reg mixed ?_|refine Run.AJ ?_|refine AH.det (HT _ _) ?_)<;>try simp -implicitDefEqProofs only [hw0,hw1,BZ hlt,DH hz,hd,go_sem])|fail))
      rw [hend (fun b hb=>by rw [hz2] at hb;cases hb;exact hd)] at hk
      refine Run.PN [0,5,6,7,8] ?_;simp -implicitDefEqProofs only [go_sem]
      exact hk
   · (repeat' (first|refine Run.ct rfl ?_|((first|refine Run.reg mixed ?_|refine Run.AJ ?_)<;>try simp -implicitDefEqProofs only [hw0,FD hlt,go_sem])|fail))
     rw [hend (fun b hb=>by rw [BM,Jb (by omega)] at hb;cases hb)] at hk
     refine Run.PN [0,5,6,7,8] ?_;simp -implicitDefEqProofs only [go_sem]
     exact hk
 · have:=(Aa.1 hx).1;omega
 · intro q b hq hb
   have:q=0:=by omega
   subst this
   rw [BM,E6,hx] at hb;cases hb;exact hw
theorem iZ {c:UInt8→Bool} (s:Str) (i:Nat) (hi:i≤s.length):Sm (.d (.str s)) (some (.d (.int .i64 (i:Int)))) (some (.d (.int .i64 ((i+((s.drop i).takeWhile c).length:Nat):Int))))=some (.d (.str ((s.drop i).takeWhile c))):=by
 have h:=El c (s.drop i)
 rw [An] at h
 rw [vS (by omega) (by omega),Kc,Nat.add_sub_cancel_left]
 congr 3
 exact (List.prefix_iff_eq_take.1 (List.takeWhile_prefix c)).symm
theorem vU (s:Str) (i n:Nat) (hi:i≤s.length) (hn:n≤(s.drop i).length):Sm (.d (.str s)) (some (.d (.int .i64 (i:Int)))) (some (.d (.int .i64 ((i+n:Nat):Int))))=some (.d (.str ((s.drop i).take n))):=by
 rw [An] at hn
 rw [vS (by omega) (by omega),Kc,Nat.add_sub_cancel_left]
theorem iW:∀(b:UInt8) (r:Str),GH (b::r)≤(b::r).length
 |b,[]=>by simp only [GH,aV];split<;>simp
 |b,c::r=>by
  simp only [GH]
  cases aW b c
  · simp only [aV,AW,if_false];split<;>simp
  · simp
set_option maxHeartbeats 4000000 in
theorem iE (s:Str) (σ:AM):AP Tryz.prog 29 [.d (.str s)] σ (fun v σ'=>v=Hk (BL s)∧σ'=σ):=by
 refine kI (by simp) ?_
 rw [Av]
 by_cases hl:s.length>16384
 · (repeat' (first|refine Run.ct rfl ?_|((first|refine Run.reg mixed ?_|refine Run.AJ ?_|refine Run.Ad HF (AM.le_refl _) ?_)<;>try simp -implicitDefEqProofs only [tD,decide_eq_true hl,go_sem])|fail))
   simp [Hk,BL,hl]
 · (repeat' (first|refine Run.ct rfl ?_|((first|refine Run.reg mixed ?_|refine Run.AJ ?_)<;>try simp -implicitDefEqProofs only [tD,decide_eq_false hl,go_sem])|fail))
   refine Run.Ba ?_
   refine Run.Bd ((fun (a0:AV)=>fun (y:Nat×AV×AM)=>put 0 a0 (put 5 (y.2.1) (put 6 (.d (.int .i64 y.1)) U))) _) (fun _=>E) (fun y=>y.2.2) (fun y=>y.1≤s.length∧∃acc n,EW σ 58 3 (acc.map Tok.enc) y.2.1 y.2.2∧acc.length≤y.1∧s.length - y.1 < n∧BL s=D6 n (s.drop y.1) y.1 acc) (fun y=>s.length - y.1) ?_ (0,.AY,σ) ⟨by simp,[],s.length+1,EW.nil _ _ _,by simp,by simp,by simp [BL,hl]⟩
   rintro ⟨i,v,σ1⟩ ⟨hi,acc,n,ho,hac,hn,hs⟩ ih
   simp only at hi ho hac hn hs
   obtain ⟨n,rfl⟩:∃m,n=m+1:=⟨n - 1,by omega⟩
   by_cases hlt:i < s.length
   · obtain ⟨x,hx⟩:=C7 hlt
     rw [Eh hx,D6] at hs
     have hw1:=BU (show i+1≤9000000000000000000 by omega)
     have hsl:(x::s.drop (i+1)).length=s.length - i:=by simp;omega
     cases hb:US x.toNat with
     |true=>
      rw [hb,if_pos rfl] at hs
      (repeat' (first|refine Run.ct rfl ?_|((first|refine Run.reg mixed ?_|refine Run.AJ ?_|(refine AQ rfl (fun h=>?_) (fun h=>?_)<;>try (cases h;done)))<;>try simp -implicitDefEqProofs only [BZ hlt,DH hx,hw1,go_sem])|(refine ⟨fun h=>?_,fun h=>?_⟩<;>first|(cases h;done)|try simp only [h])|fail))
      all_goals first
       |exact ih (i+1,v,σ1) ⟨hlt,acc,n,ho,by simp only;omega,by simp only;omega,hs⟩ (by simp only;omega)
       |(exfalso;simp_all [US];done)
     |false=>
      rw [hb,if_neg (by simp)] at hs
      simp only [US,Dw] at hb
      obtain ⟨⟨⟨h9,h10⟩,h13⟩,h32⟩:=hb
      cases hc:(x==35) with
      |true=>
       rw [hc,if_pos rfl] at hs
       (repeat' (first|refine Run.ct rfl ?_|((first|refine Run.reg mixed ?_|refine Run.AJ ?_)<;>try simp -implicitDefEqProofs only [BZ hlt,DH hx,h9,h10,h13,h32,Qe,hc,go_sem])|fail))
       refine Run.PN [0,5,6] ?_;simp -implicitDefEqProofs only [go_sem]
       refine Run.Ba ?_
       refine Run.Bd ((fun (a0:AV) (a5:AV)=>fun (j:Nat)=>put 0 a0 (put 5 a5 (put 6 (.d (.int .i64 j)) U))) _ _) (fun _=>E) (fun _=>σ1) (fun j=>i≤j∧j≤s.length∧∀q b,q < j - i→(s.drop i)[q]?=some b→(!(b==10))=true) (fun j=>s.length - j) ?_ i ⟨A9 i,hi,by intro q b hq;omega⟩
       rintro j ⟨hij,hj,hall⟩ ih2
       have hw2:=BU (show j+1≤9000000000000000000 by omega)
       have hend:(∀z,s[j]?=some z→(z==10)=true)→j≠i∧BL s=D6 n (s.drop j) j acc:=fun hz=>by
        have hji:j≠i:=fun e=>by
         subst e
         have h10:=hz x hx
         simp only [beq_iff_eq] at hc h10
         rw [hc] at h10;exact absurd h10 (by decide)
        have hk:cmt (x::s.drop (i+1))=j - i:=by
         rw [← Eh hx,cmt,Eu hall (by simp;omega) (fun b hb=>by
          rw [BM,show i+(j - i)=j by omega] at hb
          simp [hz b hb])]
         simp;omega
        rw [hk,← Eh hx,CJ,show i+(j - i)=j by omega] at hs
        exact ⟨hji,hs⟩
       by_cases hjl:j < s.length
       · obtain ⟨z,hz⟩:=C7 hjl
         have hz2:(s.drop i)[j - i]?=some z:=by rw [BM,show i+(j - i)=j by omega];exact hz
         cases h10:(z==10) with
         |true=>
          obtain ⟨hji,hs⟩:=hend (fun z' hz'=>by rw [hz] at hz';cases hz';exact h10)
          (repeat' (first|refine Run.ct rfl ?_|((first|refine Run.reg mixed ?_|refine Run.AJ ?_)<;>try simp -implicitDefEqProofs only [BZ hjl,DH hz,eZ,bne,h10,go_sem])|fail))
          refine Run.PN [0,5,6] ?_;simp -implicitDefEqProofs only [go_sem]
          exact ih (j,v,σ1) ⟨hj,acc,n,ho,by simp only;omega,by simp only;omega,hs⟩ (by simp only;omega)
         |false=>
          (repeat' (first|refine Run.ct rfl ?_|((first|refine Run.reg mixed ?_|refine Run.AJ ?_)<;>try simp -implicitDefEqProofs only [BZ hjl,DH hz,eZ,bne,h10,hw2,go_sem])|fail))
          refine ih2 (j+1) ⟨by omega,hjl,fun q b hq hb=>?_⟩ (by omega)
          rcases Cm q (j - i) with h2|h2
          · exact hall q b h2 hb
          · have:q=j - i:=by omega
            subst this
            rw [hz2] at hb;cases hb;simp [h10]
       · obtain ⟨hji,hs⟩:=hend (fun z hz=>by rw [Jb (by omega)] at hz;cases hz)
         (repeat' (first|refine Run.ct rfl ?_|((first|refine Run.reg mixed ?_|refine Run.AJ ?_)<;>try simp -implicitDefEqProofs only [FD hjl,go_sem])|fail))
         refine Run.PN [0,5,6] ?_;simp -implicitDefEqProofs only [go_sem]
         exact ih (j,v,σ1) ⟨hj,acc,n,ho,by simp only;omega,by simp only;omega,hs⟩ (by simp only;omega)
      |false=>
       rw [hc,if_neg (by simp)] at hs
       have hld:s.drop i=x::s.drop (i+1):=Eh hx
       have hss:Sm (.d (.str s)) (some (.d (.int .i64 (i:Int)))) none=some (.d (.str (x::s.drop (i+1)))):=by rw [vT hi,hld]
       -- behind a token
       have next:∀(k:Int) (t:Str) (v2:AV) (σ2:AM),Da (x::s.drop (i+1))= .ok (k,t)→EW σ 58 3 (acc.map Tok.enc++[[.int .i64 k,.str t,.int .i64 i]]) v2 σ2→
        1≤t.length∧i+t.length≤s.length∧(i+t.length≤s.length∧∃acc n,EW σ 58 3 (acc.map Tok.enc) v2 σ2∧acc.length≤i+t.length∧s.length - (i+t.length) < n∧BL s=D6 n (s.drop (i+t.length)) (i+t.length) acc):=fun k t v2 σ2 hsc ho2=>by
        have hsn:=P5 hsc
        rw [hsl] at hsn
        rw [hsc] at hs
        refine ⟨hsn.1,by omega,by omega,acc++[⟨k,t,i⟩],n,by simpa [Tok.enc] using ho2,by simp only [AA,List.length_singleton];omega,by omega,?_⟩
        rw [hs];simp only;rw [← Eh hx,CJ]
       have fail:∀e:Int,Da (x::s.drop (i+1))= .error e→BL s=([],i,e):=fun e he=>by rw [hs,he]
       have hwd:=iZ (c:=CP GW) s i hi
       have hdd:=iZ (c:=CP Em) s i hi
       have hsg:=vU s i (GH (x::s.drop (i+1))) hi (by rw [hld];exact iW _ _)
       have hwl:=El (CP GW) (s.drop i)
       have hdl:=El (CP Em) (s.drop i)
       have hsl2:=iW x (s.drop (i+1))
       have hL1:=ZG s i x hx
       have hL2:=ZH s i x hx
       rw [hld] at hwd hdd hsg hwl hdl hL1 hL2
       simp only [hsl] at hwl hdl hsl2
       have hw0:=fun n (h:n≤s.length - i)=>wrap_add (show i+n≤9000000000000000000 by omega)
       have hap:∀(r:List DV),r.length=3→∀q∈[r],q.length=3:=fun r hr q hq=>by rw [Dv] at hq;rw [hq];exact hr
       have gt24':=ADA
       have gt1':=gt1
       by_cases hlu:(M9 x.toNat||K9 x.toNat)=true
       · have hwx:CP GW x=true:=by rw [fF,hlu];rfl
         have hsc:Da (x::s.drop (i+1))=if decide (((x::s.drop (i+1)).takeWhile (CP GW)).length>24) then .error 9
                                                                                 else if K9 x.toNat then .ok (2,(x::s.drop (i+1)).takeWhile (CP GW))
                                                                                 else if S0 ((x::s.drop (i+1)).takeWhile (CP GW)) then .ok (4,(x::s.drop (i+1)).takeWhile (CP GW))
                                                                                 else .ok (1,(x::s.drop (i+1)).takeWhile (CP GW)):=by rw [Da,if_pos hlu]
         have hL:=fun K k=>hL1 hwx (by omega) σ1 v (.d (.int .u8 x.toNat)) K k
         generalize ((x::s.drop (i+1)).takeWhile (CP GW))=w at hwd hwl hsc hL
         have hwn:=hw0 w.length hwl
         cases hup:K9 x.toNat<;>cases hlo:M9 x.toNat<;>rw [hup] at hsc<;>first|(simp only [hup,hlo,Bool.or_self,AW] at hlu;done)|skip
         all_goals (repeat' (first|refine Run.ct rfl ?_|((first|refine Run.reg mixed ?_|refine Run.AJ ?_|(refine Run.Ba ?_;refine Run.PN [0,5,6,7,8] ?_;simp -implicitDefEqProofs only [go_sem];refine hL _ _ ?_)|(refine Kf.own ho rfl (by simp) (by simp;omega) (by decide) (fun v2 σ2 ho2 hbk=>?_))|(refine Run.Ad HF ho.le ?_)|refine AH.det (Ii _ _) ?_|refine AH.det (Ij _ _) ?_|refine AH.det (aO _ _) ?_)<;>try simp -implicitDefEqProofs only [hup,hlo,BZ hlt,DH hx,h9,h10,h13,h32,Qe,hc,hwn,hwd,gt24',ho.BR,AW,go_sem])|(refine ⟨fun h=>?_,fun h=>?_⟩<;>first|(cases h;done)|try simp only [h])|fail))
         all_goals first
          |(obtain ⟨p1,p2,p3⟩:=next _ w _ _ (by rw [hsc];simp only [*,AW,reduceIte,BH,D9,BJ,E5,Iq,Ip]) ho2;exact ih (i+w.length,_,_) p3 (by simp only;omega))
          |(rw [fail 9 (by rw [hsc];simp only [*,AW,reduceIte,BH,D9,BJ,E5,Iq,Ip])];simp [Hk];done)
       · simp only [Qw,Dw] at hlu
         have hnlu:¬(M9 x.toNat||K9 x.toNat)=true:=by simp [hlu]
         cases hdg:Em x.toNat with
         |true=>
          have hsc:Da (x::s.drop (i+1))=if x==48&&decide (((x::s.drop (i+1)).takeWhile (CP Em)).length>1) then .error 2
                                                                                         else if (FI ((x::s.drop (i+1)).takeWhile (CP Em)) 0).isSome then .ok (3,(x::s.drop (i+1)).takeWhile (CP Em))
                                                                                         else .error 9:=by rw [Da,if_neg hnlu,if_pos hdg]
          have hL:=fun K k=>hL2 hdg (by omega) σ1 v (.d (.int .u8 x.toNat)) K k
          generalize ((x::s.drop (i+1)).takeWhile (CP Em))=w at hdd hdl hsc hL
          have hwn:=hw0 w.length hdl
          have hval:=iF w σ1 (by omega)
          cases hv:FI w 0 with
          |some z=>
           rw [hv] at hval
           (repeat' (first|refine Run.ct rfl ?_|((first|refine Run.reg mixed ?_|refine Run.AJ ?_|(refine Run.Ba ?_;refine Run.PN [0,5,6,7,8] ?_;simp -implicitDefEqProofs only [go_sem];refine hL _ _ ?_)|(refine Kf.own ho rfl (by simp) (by simp;omega) (by decide) (fun v2 σ2 ho2 hbk=>?_))|(refine Run.Ad HF ho.le ?_)|refine AH.det (Ii _ _) ?_|refine AH.det (Ij _ _) ?_|refine AH.det (HT _ _) ?_|refine AH.det (hval) ?_|(refine AQ rfl (fun h=>?_) (fun h=>?_)<;>try (cases h;done)))<;>try simp -implicitDefEqProofs only [BZ hlt,DH hx,h9,h10,h13,h32,Qe,hc,hwn,hdd,gt1',wC,hlu.1,hlu.2,hdg,ho.BR,AW,go_sem])|(refine ⟨fun h=>?_,fun h=>?_⟩<;>first|(cases h;done)|try simp only [h])|fail))
           all_goals first
            |(obtain ⟨p1,p2,p3⟩:=next _ w _ _ (by rw [hsc];simp only [*,AW,reduceIte,BH,D9,BJ,E5,Iq,Ip]) ho2;exact ih (i+w.length,_,_) p3 (by simp only;omega))
            |(rw [fail 2 (by rw [hsc];simp only [*,AW,reduceIte,BH,D9,BJ,E5,Iq,Ip])];simp [Hk];done)
          |none=>
           rw [hv] at hval
           (repeat' (first|refine Run.ct rfl ?_|((first|refine Run.reg mixed ?_|refine Run.AJ ?_|(refine Run.Ba ?_;refine Run.PN [0,5,6,7,8] ?_;simp -implicitDefEqProofs only [go_sem];refine hL _ _ ?_)|(refine Kf.own ho rfl (by simp) (by simp;omega) (by decide) (fun v2 σ2 ho2 hbk=>?_))|(refine Run.Ad HF ho.le ?_)|refine AH.det (Ii _ _) ?_|refine AH.det (Ij _ _) ?_|refine AH.det (HT _ _) ?_|refine AH.det (hval) ?_|(refine AQ rfl (fun h=>?_) (fun h=>?_)<;>try (cases h;done)))<;>try simp -implicitDefEqProofs only [BZ hlt,DH hx,h9,h10,h13,h32,Qe,hc,hwn,hdd,gt1',wC,hlu.1,hlu.2,hdg,ho.BR,AW,go_sem])|(refine ⟨fun h=>?_,fun h=>?_⟩<;>first|(cases h;done)|try simp only [h])|fail))
           all_goals first
            |(rw [fail 2 (by rw [hsc];simp only [*,AW,reduceIte,BH,D9,BJ,E5,Iq,Ip])];simp [Hk];done)
            |(rw [fail 9 (by rw [hsc];simp only [*,AW,reduceIte,BH,D9,BJ,E5,Iq,Ip])];simp [Hk];done)
         |false=>
          have hsc:Da (x::s.drop (i+1))=if (x::s.drop (i+1)).take (GH (x::s.drop (i+1)))==[] then .error 2 else .ok (5,(x::s.drop (i+1)).take (GH (x::s.drop (i+1)))):=by rw [Da,if_neg hnlu,if_neg (by simp [hdg])]
          have hsk:=lU (x::s.drop (i+1)) σ1 (by simp)
          have hwn:=hw0 (GH (x::s.drop (i+1))) hsl2
          have htl:((x::s.drop (i+1)).take (GH (x::s.drop (i+1)))).length=GH (x::s.drop (i+1)):=by rw [B4,hsl];omega
          generalize GH (x::s.drop (i+1))=m at hsc hsk hwn hsg hsl2 htl
          generalize ((x::s.drop (i+1)).take m)=w at hsc hsg htl
          have hz:((m:Int)==0)=(w==[]):=by
           rw [Dn];simp only [beq_iff_eq]
           rw [← Xn,htl];omega
          cases hw:(w==[]) with
          |true=>
           (repeat' (first|refine Run.ct rfl ?_|((first|refine Run.reg mixed ?_|refine Run.AJ ?_|(refine Run.Ad HF ho.le ?_)|refine AH.det (Ii _ _) ?_|refine AH.det (Ij _ _) ?_|refine AH.det (HT _ _) ?_|refine AH.det (hsk) ?_)<;>try simp -implicitDefEqProofs only [BZ hlt,DH hx,h9,h10,h13,h32,Qe,hc,hss,hwn,hsg,hlu.1,hlu.2,hdg,hz,hw,ho.BR,AW,go_sem])|fail))
           rw [fail 2 (by rw [hsc,if_pos hw])];simp [Hk]
          |false=>
           (repeat' (first|refine Run.ct rfl ?_|((first|refine Run.reg mixed ?_|refine Run.AJ ?_|(refine Kf.own ho rfl (by simp) (by simp;omega) (by decide) (fun v2 σ2 ho2 hbk=>?_))|(refine Run.Ad HF ho.le ?_)|refine AH.det (Ii _ _) ?_|refine AH.det (Ij _ _) ?_|refine AH.det (HT _ _) ?_|refine AH.det (hsk) ?_)<;>try simp -implicitDefEqProofs only [BZ hlt,DH hx,h9,h10,h13,h32,Qe,hc,hss,hwn,hsg,hlu.1,hlu.2,hdg,hz,hw,ho.BR,AW,go_sem])|fail))
           obtain ⟨p1,p2,p3⟩:=next 5 w _ _ (by rw [hsc,if_neg (by simp [hw])]) ‹_›
           rw [htl] at p1 p2 p3
           exact ih (i+m,_,_) p3 (by simp only;omega)
   · have hge:i=s.length:=by omega
     rw [hge,Qx,D6] at hs
     (repeat' (first|refine Run.ct rfl ?_|((first|refine Run.reg mixed ?_|refine Run.AJ ?_|(refine Kf.own ho rfl (by simp) (by simp;omega) (by decide) (fun v2 σ2 ho2 hbk=>?_))|(refine Run.Ad HF ho2.le ?_))<;>try simp -implicitDefEqProofs only [FD hlt,go_sem])|fail))
     simp -implicitDefEqProofs only [ho2.Ay,ho2.plain,go_sem]
     rw [hs];simp [Hk,Tok.enc]
end Go.Ab
