/- The parser: types. Texts split into tokens, as the reference does it. Conditions: none. -/
import Derived.Test.YtifplkldbbcldaaGreatDoorXDt
set_option linter.unusedSimpArgs false
set_option linter.unusedVariables false
set_option maxRecDepth 4000
set_option maxHeartbeats 8000000
open List renaming map_cons→AF,map_nil→AI,mem_map→LY,length_pos_iff→Ar,length_map→AB,length_cons→AE,length_nil→AH,map_append→Bm,getElem?_drop→BK,getElem?_eq_none→J3,getElem?_eq_some_iff→A9,length_drop→Ai,drop_take→K4,drop_drop→CD,length_append→AA,mem_singleton→Dn,length_take→B2,length_eq_zero_iff→XU,drop_length→Qe
open Bool renaming false_eq_true→AU,or_eq_false_iff→Dq,and_true→BB,and_false→D2,true_and→BH,false_and→EX,not_eq_true→Qd,eq_iff_iff→Dg
open Nat renaming lt_or_ge→Cf,add_zero→EY,le_refl→A7
open Option renaming isSome_some→Ih,isSome_none→Ig
namespace Go.Ab
open Go.Proofs
variable {α β:Type}
theorem run_bind (m:PM α) (k:α→PM β) (s:PSt):(m.bind k).run s=(k (m.run s).1).run (m.run s).2:=rfl
theorem run_pure (a:α) (s:PSt):(PM.pure a).run s=(a,s):=rfl
theorem tB (a:α) (s:PSt):(PM.fail a).run s=(a,s.fail):=rfl
theorem run_map (g:α→β) (m:PM α) (s:PSt):(m.map g).run s=(g (m.run s).1,(m.run s).2):=rfl
theorem gA (k:Int) (y n:PM α) (s:PSt):(PM.kind k y n).run s=if (s.hd.kind==k)=true then y.run s else n.run s:=rfl
theorem HY (t:Str) (ht:t≠[]) (y n:PM α) (s:PSt):(PM.acc t ht y n).run s=if (s.hd.text==t)=true then y.run s.adv else n.run s:=rfl
theorem DD (i:Nat) (L:List Tok) (n:Nat) (t:Str) (ht:t≠[]):PC 127 [.gp i 0,.d (.str t)] i L n (PM.exp t ht) (fun _=>.tup []):=fun σ s _ h1 _ h3=>UA h1 t ht σ h3
theorem S7 (i:Nat) (L:List Tok) (n:Nat):PC 124 [.gp i 0,.d (.int .i64 2)] i L n FU (fun x=>.d (.str x)):=dE i L n 2 (by decide)
theorem k7 (i:Nat) (L:List Tok) (n:Nat) {T:PM TE} (hT:PC 168 [.gp i 0] i L n T teA) (k:Int):PC 184 [.gp i 0,.d (.int .i64 k)] i L n (SK k T) teA:=by
 intro σ s0 g0 h0 l0 b0
 refine Of (by simp) ?_
 rw [BF]
 simp only [SK,run_bind,run_pure,teA,TE.A1,AF,AI]
 (have c0:=(DD i L n [40] (by decide)) σ s0 g0 h0 (by omega) b0;have h1:=h0.run (PM.exp [40] (by decide));have l1:=PM.le (PM.exp [40] (by decide)) h0.wf;generalize (PM.exp [40] (by decide)).run s0=y at c0 h1 l1 ⊢;obtain ⟨x0,s1⟩:=y;simp only at c0 h1 l1 ⊢;have b1:(σ.AL i (psA L s1)).blk i=some (psA L s1):=(by rw [AO,if_pos rfl]))
 (have c1:=hT (σ.AL i (psA L s1)) s1 g0 h1 (by omega) b1;rw [A2] at c1;have h2:=h1.run (T);have l2:=PM.le (T) h1.wf;generalize (T).run s1=y at c1 h2 l2 ⊢;obtain ⟨x1,s2⟩:=y;simp only at c1 h2 l2 ⊢;have b2:(σ.AL i (psA L s2)).blk i=some (psA L s2):=(by rw [AO,if_pos rfl]);obtain ⟨k0,n0,a0⟩:=x1;simp only [teA,TE.A1,AF,AI] at c1 ⊢)
 (have c2:=(DD i L n [41] (by decide)) (σ.AL i (psA L s2)) s2 g0 h2 (by omega) b2;rw [A2] at c2;have h3:=h2.run (PM.exp [41] (by decide));have l3:=PM.le (PM.exp [41] (by decide)) h2.wf;generalize (PM.exp [41] (by decide)).run s2=y at c2 h3 l3 ⊢;obtain ⟨x2,s3⟩:=y;simp only at c2 h3 l3 ⊢;have b3:(σ.AL i (psA L s3)).blk i=some (psA L s3):=(by rw [AO,if_pos rfl]))
 (repeat' (first|refine Run.ct rfl ?_|((first|refine Run.reg mixed ?_|refine Run.AJ ?_|refine Run.Aa I4 (AM.le_refl _) ?_|(refine AG.upd c0 ?_)|(refine AG.upd c1 ?_)|(refine AG.upd c2 ?_)|(refine AP rfl (fun h=>?_) (fun h=>?_)<;>try (cases h;done)))<;>try simp -implicitDefEqProofs only [go_sem])|(refine ⟨fun h=>?_,fun h=>?_⟩<;>first|(cases h;done)|try simp only [h])|fail))
theorem TE.jH (t:TE):t.enc.length=3:=by cases t;rw [TE.A1];rfl
theorem NK {α:Type} {enc:α→List DV} (z:Nat) (l:List α) (h:∀x,(enc x).length=z):∀r∈l.map enc,r.length=z:=fun r hr=>by
 obtain ⟨x,_,rfl⟩:=LY.1 hr
 exact h x
theorem Xx:Ap Tryz.prog 168=true:=by kernel_rfl
set_option maxHeartbeats 4000000 in
theorem tR (i:Nat) (L:List Tok):∀n,PC 168 [.gp i 0] i L n (Fp n) teA
 |0=>fun σ s _ h1 h2 h3=>by have:=Ar.2 h1.wf.ne;omega
 |n+1=>by
  have ih:=tR i L n
  intro σ s0 g0 h0 l0 b0
  refine TF (by simp) ?_
  rw [BC]
  have hpk:=QF h0 σ b0
  rw [Fp]
  simp only [gA,HY]
  cases hk1:s0.hd.kind==1 with
  |true=>
   simp only [if_true,run_bind,run_pure,teA,TE.A1,AF,AI]
   (have c0:=(QD i L (n+1)) σ s0 g0 h0 (by omega) b0;have h1:=h0.run (Fc);have l1:=PM.le (Fc) h0.wf;generalize (Fc).run s0=y at c0 h1 l1 ⊢;obtain ⟨x0,s1⟩:=y;simp only at c0 h1 l1 ⊢;have b1:(σ.AL i (psA L s1)).blk i=some (psA L s1):=(by rw [AO,if_pos rfl]))
   (repeat' (first|refine Run.ct rfl ?_|((first|refine Run.reg mixed ?_|refine Run.AJ ?_|refine Run.Aa BR (AM.le_refl _) ?_|(refine AG.upd c0 ?_)|refine AG.det (hpk) ?_|(refine AP rfl (fun h=>?_) (fun h=>?_)<;>try (cases h;done)))<;>try simp -implicitDefEqProofs only [hk1,go_sem])|(refine ⟨fun h=>?_,fun h=>?_⟩<;>first|(cases h;done)|try simp only [h])|fail))
  |false=>
  cases hk2:s0.hd.kind==2 with
  |true=>
   simp only [if_true,if_false,AU,run_bind,run_pure,teA,TE.A1,AF,AI]
   (have c0:=(S7 i L (n+1)) σ s0 g0 h0 (by omega) b0;have h1:=h0.run (FU);have l1:=PM.le (FU) h0.wf;generalize (FU).run s0=y at c0 h1 l1 ⊢;obtain ⟨x0,s1⟩:=y;simp only at c0 h1 l1 ⊢;have b1:(σ.AL i (psA L s1)).blk i=some (psA L s1):=(by rw [AO,if_pos rfl]))
   (have c1:=(JS i L n Xx ih).pc (σ.AL i (psA L s1)) s1 g0 h1 (by omega) b1;rw [A2] at c1;have h2:=h1.run (IT (Fp n));have l2:=PM.le (IT (Fp n)) h1.wf;generalize (IT (Fp n)).run s1=y at c1 h2 l2 ⊢;obtain ⟨x1,s2⟩:=y;simp only at c1 h2 l2 ⊢;have b2:(σ.AL i (psA L s2)).blk i=some (psA L s2):=(by rw [AO,if_pos rfl]))
   (repeat' (first|refine Run.ct rfl ?_|((first|refine Run.reg mixed ?_|refine Run.AJ ?_|refine Run.Aa BR (AM.le_refl _) ?_|(refine AG.upd c0 ?_)|(refine AG.upd c1 ?_)|refine AG.det (hpk) ?_|(refine AP rfl (fun h=>?_) (fun h=>?_)<;>try (cases h;done)))<;>try simp -implicitDefEqProofs only [hk1,hk2,go_sem])|(refine ⟨fun h=>?_,fun h=>?_⟩<;>first|(cases h;done)|try simp only [h])|fail))
  |false=>
  simp only [if_false,AU]
  cases t1:s0.hd.text==[105,110,116] with
  |true=>
   simp only [if_true,run_pure,teA,TE.A1,AF,AI]
   (have c0:=DC h0 [105,110,116] σ b0 t1;have h1:=h0.adv (t:=[105,110,116]) (by decide) t1;have l1:=BV h0.wf;generalize s0.adv=s1 at c0 h1 l1 ⊢;have b1:(σ.AL i (psA L s1)).blk i=some (psA L s1):=by rw [AO,if_pos rfl])
   (repeat' (first|refine Run.ct rfl ?_|((first|refine Run.reg mixed ?_|refine Run.AJ ?_|refine Run.Aa BR (AM.le_refl _) ?_|(refine AG.upd c0 ?_)|refine AG.det (hpk) ?_|(refine AP rfl (fun h=>?_) (fun h=>?_)<;>try (cases h;done)))<;>try simp -implicitDefEqProofs only [hk1,hk2,go_sem])|(refine ⟨fun h=>?_,fun h=>?_⟩<;>first|(cases h;done)|try simp only [h])|fail))
  |false=>
  have f1:=DB h0 _ σ b0 t1
  cases t2:s0.hd.text==[98,111,111,108] with
  |true=>
   simp only [if_true,if_false,AU,run_pure,teA,TE.A1,AF,AI]
   (have c0:=DC h0 [98,111,111,108] σ b0 t2;have h1:=h0.adv (t:=[98,111,111,108]) (by decide) t2;have l1:=BV h0.wf;generalize s0.adv=s1 at c0 h1 l1 ⊢;have b1:(σ.AL i (psA L s1)).blk i=some (psA L s1):=by rw [AO,if_pos rfl])
   (repeat' (first|refine Run.ct rfl ?_|((first|refine Run.reg mixed ?_|refine Run.AJ ?_|refine Run.Aa BR (AM.le_refl _) ?_|(refine AG.upd c0 ?_)|refine AG.det (hpk) ?_|refine AG.det (f1) ?_|(refine AP rfl (fun h=>?_) (fun h=>?_)<;>try (cases h;done)))<;>try simp -implicitDefEqProofs only [hk1,hk2,go_sem])|(refine ⟨fun h=>?_,fun h=>?_⟩<;>first|(cases h;done)|try simp only [h])|fail))
  |false=>
  have f2:=DB h0 _ σ b0 t2
  cases t3:s0.hd.text==[117,110,105,116] with
  |true=>
   simp only [if_true,if_false,AU,run_pure,teA,TE.A1,AF,AI]
   (have c0:=DC h0 [117,110,105,116] σ b0 t3;have h1:=h0.adv (t:=[117,110,105,116]) (by decide) t3;have l1:=BV h0.wf;generalize s0.adv=s1 at c0 h1 l1 ⊢;have b1:(σ.AL i (psA L s1)).blk i=some (psA L s1):=by rw [AO,if_pos rfl])
   (repeat' (first|refine Run.ct rfl ?_|((first|refine Run.reg mixed ?_|refine Run.AJ ?_|refine Run.Aa BR (AM.le_refl _) ?_|(refine AG.upd c0 ?_)|refine AG.det (hpk) ?_|refine AG.det (f1) ?_|refine AG.det (f2) ?_|(refine AP rfl (fun h=>?_) (fun h=>?_)<;>try (cases h;done)))<;>try simp -implicitDefEqProofs only [hk1,hk2,go_sem])|(refine ⟨fun h=>?_,fun h=>?_⟩<;>first|(cases h;done)|try simp only [h])|fail))
  |false=>
  have f3:=DB h0 _ σ b0 t3
  cases t4:s0.hd.text==[97,114,114,97,121] with
  |true=>
   simp only [if_true,if_false,AU]
   (have c0:=DC h0 [97,114,114,97,121] σ b0 t4;have h1:=h0.adv (t:=[97,114,114,97,121]) (by decide) t4;have l1:=BV h0.wf;generalize s0.adv=s1 at c0 h1 l1 ⊢;have b1:(σ.AL i (psA L s1)).blk i=some (psA L s1):=by rw [AO,if_pos rfl])
   (have c1:=(k7 i L n ih 7) (σ.AL i (psA L s1)) s1 g0 h1 (by omega) b1;rw [A2] at c1;have h2:=h1.run (SK 7 (Fp n));have l2:=PM.le (SK 7 (Fp n)) h1.wf;generalize (SK 7 (Fp n)).run s1=y at c1 h2 l2 ⊢;obtain ⟨x1,s2⟩:=y;simp only at c1 h2 l2 ⊢;have b2:(σ.AL i (psA L s2)).blk i=some (psA L s2):=(by rw [AO,if_pos rfl]);obtain ⟨k0,n0,a0⟩:=x1;simp only [teA,TE.A1,AF,AI] at c1 ⊢)
   (repeat' (first|refine Run.ct rfl ?_|((first|refine Run.reg mixed ?_|refine Run.AJ ?_|refine Run.Aa BR (AM.le_refl _) ?_|(refine AG.upd c0 ?_)|(refine AG.upd c1 ?_)|refine AG.det (hpk) ?_|refine AG.det (f1) ?_|refine AG.det (f2) ?_|refine AG.det (f3) ?_|(refine AP rfl (fun h=>?_) (fun h=>?_)<;>try (cases h;done)))<;>try simp -implicitDefEqProofs only [hk1,hk2,go_sem])|(refine ⟨fun h=>?_,fun h=>?_⟩<;>first|(cases h;done)|try simp only [h])|fail))
  |false=>
  have f4:=DB h0 _ σ b0 t4
  cases t5:s0.hd.text==[114,101,102] with
  |true=>
   simp only [if_true,if_false,AU]
   (have c0:=DC h0 [114,101,102] σ b0 t5;have h1:=h0.adv (t:=[114,101,102]) (by decide) t5;have l1:=BV h0.wf;generalize s0.adv=s1 at c0 h1 l1 ⊢;have b1:(σ.AL i (psA L s1)).blk i=some (psA L s1):=by rw [AO,if_pos rfl])
   (have c1:=(k7 i L n ih 8) (σ.AL i (psA L s1)) s1 g0 h1 (by omega) b1;rw [A2] at c1;have h2:=h1.run (SK 8 (Fp n));have l2:=PM.le (SK 8 (Fp n)) h1.wf;generalize (SK 8 (Fp n)).run s1=y at c1 h2 l2 ⊢;obtain ⟨x1,s2⟩:=y;simp only at c1 h2 l2 ⊢;have b2:(σ.AL i (psA L s2)).blk i=some (psA L s2):=(by rw [AO,if_pos rfl]);obtain ⟨k0,n0,a0⟩:=x1;simp only [teA,TE.A1,AF,AI] at c1 ⊢)
   (repeat' (first|refine Run.ct rfl ?_|((first|refine Run.reg mixed ?_|refine Run.AJ ?_|refine Run.Aa BR (AM.le_refl _) ?_|(refine AG.upd c0 ?_)|(refine AG.upd c1 ?_)|refine AG.det (hpk) ?_|refine AG.det (f1) ?_|refine AG.det (f2) ?_|refine AG.det (f3) ?_|refine AG.det (f4) ?_|(refine AP rfl (fun h=>?_) (fun h=>?_)<;>try (cases h;done)))<;>try simp -implicitDefEqProofs only [hk1,hk2,go_sem])|(refine ⟨fun h=>?_,fun h=>?_⟩<;>first|(cases h;done)|try simp only [h])|fail))
  |false=>
  have f5:=DB h0 _ σ b0 t5
  cases t6:s0.hd.text==[40] with
  |true=>
   simp only [if_true,if_false,AU,run_bind,run_pure,teA,TE.A1,AF,AI]
   (have c0:=DC h0 [40] σ b0 t6;have h1:=h0.adv (t:=[40]) (by decide) t6;have l1:=BV h0.wf;generalize s0.adv=s1 at c0 h1 l1 ⊢;have b1:(σ.AL i (psA L s1)).blk i=some (psA L s1):=by rw [AO,if_pos rfl])
   (have c1:=ih (σ.AL i (psA L s1)) s1 g0 h1 (by omega) b1;rw [A2] at c1;have h2:=h1.run (Fp n);have l2:=PM.le (Fp n) h1.wf;generalize (Fp n).run s1=y at c1 h2 l2 ⊢;obtain ⟨x1,s2⟩:=y;simp only at c1 h2 l2 ⊢;have b2:(σ.AL i (psA L s2)).blk i=some (psA L s2):=(by rw [AO,if_pos rfl]);obtain ⟨k0,n0,a0⟩:=x1;simp only [teA,TE.A1,AF,AI] at c1 ⊢)
   (have c2:=(DD i L n [44] (by decide)) (σ.AL i (psA L s2)) s2 g0 h2 (by omega) b2;rw [A2] at c2;have h3:=h2.run (PM.exp [44] (by decide));have l3:=PM.le (PM.exp [44] (by decide)) h2.wf;generalize (PM.exp [44] (by decide)).run s2=y at c2 h3 l3 ⊢;obtain ⟨x2,s3⟩:=y;simp only at c2 h3 l3 ⊢;have b3:(σ.AL i (psA L s3)).blk i=some (psA L s3):=(by rw [AO,if_pos rfl]))
   (have d3:=fun tk:Nat=>(Ea i L n Xx ih).pc ((σ.AL i (psA L s3)).D0 tk) s3 g0 h3 (by omega) (by rw [GA];exact b3);have c3:=(Ea i L n Xx ih).pc (σ.AL i (psA L s3)) s3 g0 h3 (by omega) b3;rw [A2] at c3;have h4:=h3.run (listed (Fp n));have l4:=PM.le (listed (Fp n)) h3.wf;have n3:=QB (read:=Fp n) h3.wf;generalize (listed (Fp n)).run s3=y at c3 d3 h4 l4 n3 ⊢;obtain ⟨x3,s4⟩:=y;simp only at c3 d3 h4 l4 n3 ⊢;have q3:=h0.suf.length_le;have q3':=h0.len)
   (repeat' (first|refine Run.ct rfl ?_|((first|refine Run.reg mixed ?_|refine Run.AJ ?_|(refine AG.upd c0 ?_)|(refine AG.upd c1 ?_)|(refine AG.upd c2 ?_)|refine AG.det (hpk) ?_|refine AG.det (f1) ?_|refine AG.det (f2) ?_|refine AG.det (f3) ?_|refine AG.det (f4) ?_|refine AG.det (f5) ?_|(refine AP rfl (fun h=>?_) (fun h=>?_)<;>try (cases h;done)))<;>try simp -implicitDefEqProofs only [hk1,hk2,go_sem])|(refine ⟨fun h=>?_,fun h=>?_⟩<;>first|(cases h;done)|try simp only [h])|fail))
   refine Run.SO mixed ?_;simp -implicitDefEqProofs only [go_sem]
   refine ⟨?_,?_⟩
   · refine IV.own rfl (by decide) (fun tk htk=>?_);simp -implicitDefEqProofs only [go_sem]
     refine AG.upd (d3 tk) ?_;simp -implicitDefEqProofs only [go_sem]
     (apply LS.tok (LS.vR htk s4);rfl;exact (NK _ _ TE.jH);(simp only [AB,AE,AH];omega);decide;intro v2 τ2 ho);simp -implicitDefEqProofs only [ho.own.BS,ho.own.Au,ho.own.cells,ho.own.cell,ho.own.plain,ho.own.dv,if_true,go_sem]
     (repeat' (first|refine Run.ct rfl ?_|((first|refine Run.reg mixed ?_|refine Run.AJ ?_|(refine Run.Aa BR ho.le ?_)|(refine AP rfl (fun h=>?_) (fun h=>?_)<;>try (cases h;done)))<;>try simp -implicitDefEqProofs only [ho.own.BS,ho.own.Au,ho.own.cells,ho.own.cell,ho.own.plain,ho.own.dv,if_true,go_sem])|(refine ⟨fun h=>?_,fun h=>?_⟩<;>first|(cases h;done)|try simp only [h])|fail))
   · refine AG.upd c3 ?_;simp -implicitDefEqProofs only [go_sem]
     refine IV.own rfl (by decide) (fun tk htk=>?_);simp -implicitDefEqProofs only [go_sem]
     (apply LS.tok (LS.vQ htk);rfl;exact (NK _ _ TE.jH);(simp only [AB,AE,AH];omega);decide;intro v2 τ2 ho);simp -implicitDefEqProofs only [ho.own.BS,ho.own.Au,ho.own.cells,ho.own.cell,ho.own.plain,ho.own.dv,if_true,go_sem]
     (repeat' (first|refine Run.ct rfl ?_|((first|refine Run.reg mixed ?_|refine Run.AJ ?_|(refine Run.Aa BR ho.le ?_)|(refine AP rfl (fun h=>?_) (fun h=>?_)<;>try (cases h;done)))<;>try simp -implicitDefEqProofs only [ho.own.BS,ho.own.Au,ho.own.cells,ho.own.cell,ho.own.plain,ho.own.dv,if_true,go_sem])|(refine ⟨fun h=>?_,fun h=>?_⟩<;>first|(cases h;done)|try simp only [h])|fail))
  |false=>
  have f6:=DB h0 _ σ b0 t6
  cases t7:s0.hd.text==[102,110] with
  |true=>
   simp only [if_true,if_false,AU,run_bind,run_pure,teA,TE.A1,AF,AI]
   (have c0:=DC h0 [102,110] σ b0 t7;have h1:=h0.adv (t:=[102,110]) (by decide) t7;have l1:=BV h0.wf;generalize s0.adv=s1 at c0 h1 l1 ⊢;have b1:(σ.AL i (psA L s1)).blk i=some (psA L s1):=by rw [AO,if_pos rfl])
   (have c1:=(DD i L n [40] (by decide)) (σ.AL i (psA L s1)) s1 g0 h1 (by omega) b1;rw [A2] at c1;have h2:=h1.run (PM.exp [40] (by decide));have l2:=PM.le (PM.exp [40] (by decide)) h1.wf;generalize (PM.exp [40] (by decide)).run s1=y at c1 h2 l2 ⊢;obtain ⟨x1,s2⟩:=y;simp only at c1 h2 l2 ⊢;have b2:(σ.AL i (psA L s2)).blk i=some (psA L s2):=(by rw [AO,if_pos rfl]))
   have c2:=P8 i L n Xx ih (σ.AL i (psA L s2)) s2 g0 h2 (by omega) b2
   rw [A2] at c2
   have h3:=h2.run (closed (Fp n))
   have l3:=PM.le (closed (Fp n)) h2.wf
   have n2:=Tz (read:=Fp n) h2.wf
   have q2:=h0.suf.length_le
   have q3:=h0.len
   generalize (closed (Fp n)).run s2=y at c2 h3 l3 n2 ⊢
   obtain ⟨x2,s3⟩:=y
   simp only at c2 h3 l3 n2 ⊢
   (repeat' (first|refine Run.ct rfl ?_|((first|refine Run.reg mixed ?_|refine Run.AJ ?_|(refine AG.upd c0 ?_)|(refine AG.upd c1 ?_)|(refine AG.mk rfl c2 ?_;intro v1 τ1 ho1)|refine AG.det (hpk) ?_|refine AG.det (f1) ?_|refine AG.det (f2) ?_|refine AG.det (f3) ?_|refine AG.det (f4) ?_|refine AG.det (f5) ?_|refine AG.det (f6) ?_|(refine AP rfl (fun h=>?_) (fun h=>?_)<;>try (cases h;done)))<;>try simp -implicitDefEqProofs only [hk1,hk2,go_sem])|(refine ⟨fun h=>?_,fun h=>?_⟩<;>first|(cases h;done)|try simp only [h])|fail))
   have hl1:=LS.of ho1
   have e3:=UA h3 [45,62] (by decide) τ1 hl1.blk
   have hl2:=hl1.step ((PM.exp [45,62] (by decide)).run s3).2
   have h4:=h3.run (PM.exp [45,62] (by decide))
   have l4:=PM.le (PM.exp [45,62] (by decide)) h3.wf
   generalize (PM.exp [45,62] (by decide)).run s3=y at e3 hl2 h4 l4 ⊢
   obtain ⟨x3,s4⟩:=y
   simp only at e3 hl2 h4 l4 ⊢
   have c4:=ih (τ1.AL i (psA L s4)) s4 (hl1.gt g0) h4 (by omega) hl2.blk
   rw [A2] at c4
   have hl3:=hl1.step ((Fp n).run s4).2
   generalize (Fp n).run s4=y at c4 hl3 ⊢
   obtain ⟨x4,s5⟩:=y
   obtain ⟨k0,n0,a0⟩:=x4
   simp only [teA,TE.A1,AF,AI] at c4 hl3 ⊢
   (repeat' (first|refine Run.ct rfl ?_|((first|refine Run.reg mixed ?_|refine Run.AJ ?_|(refine AG.upd e3 ?_)|(refine AG.upd c4 ?_)|(refine AP rfl (fun h=>?_) (fun h=>?_)<;>try (cases h;done)))<;>try simp -implicitDefEqProofs only [ho1.BS,go_sem])|(refine ⟨fun h=>?_,fun h=>?_⟩<;>first|(cases h;done)|try simp only [h])|fail))
   refine hl3.tok rfl (by simp) (by simp;omega) (by decide) (fun v2 τ2 ho=>?_);simp -implicitDefEqProofs only [ho.own.BS,ho.own.Au,ho.own.cells,ho.own.cell,ho.own.plain,ho.own.dv,if_true,go_sem]
   (repeat' (first|refine Run.ct rfl ?_|((first|refine Run.reg mixed ?_|refine Run.AJ ?_|(refine Run.Aa BR ho.le ?_)|(refine AP rfl (fun h=>?_) (fun h=>?_)<;>try (cases h;done)))<;>try simp -implicitDefEqProofs only [ho.own.BS,ho.own.Au,ho.own.cells,ho.own.cell,ho.own.plain,ho.own.dv,if_true,Bm,AF,AI,TE.A1,go_sem])|(refine ⟨fun h=>?_,fun h=>?_⟩<;>first|(cases h;done)|try simp only [h])|fail))
  |false=>
  have f7:=DB h0 _ σ b0 t7
  simp only [if_false,AU,tB,teA,TE.A1,AF,AI]
  (repeat' (first|refine Run.ct rfl ?_|((first|refine Run.reg mixed ?_|refine Run.AJ ?_|refine Run.Aa BR (AM.le_refl _) ?_|(refine AG.upd (Um h0 σ b0) ?_)|refine AG.det (hpk) ?_|refine AG.det (f1) ?_|refine AG.det (f2) ?_|refine AG.det (f3) ?_|refine AG.det (f4) ?_|refine AG.det (f5) ?_|refine AG.det (f6) ?_|refine AG.det (f7) ?_|(refine AP rfl (fun h=>?_) (fun h=>?_)<;>try (cases h;done)))<;>try simp -implicitDefEqProofs only [hk1,hk2,go_sem])|(refine ⟨fun h=>?_,fun h=>?_⟩<;>first|(cases h;done)|try simp only [h])|fail))
end Go.Ab
namespace Go.Ab
open Go.Proofs
theorem dM (z:UInt8):CL GK z=(MV z.toNat||KY z.toNat||Eg z.toNat||((z.toNat:Int)==95)):=rfl
theorem Y3 (s:Str) (i:Nat) (x:UInt8) (hx:s[i]?=some x) (hw:CL GK x=true) (hl:s.length≤16384) (σ1:AM) (a5 a7:AV) (K:AV→AM→Prop) (k:List CI)
 (hk:Run GL K k (put 0 (.d (.str s)) (put 5 a5 (put 6 (.d (.int .i64 i)) (put 7 a7 (put 8 (.d (.int .i64 (((s.drop i).takeWhile (CL GK)).length:Nat))) U))))) E σ1):
 Run GL K (.again TY::.blk 5::k) (put 0 (.d (.str s)) (put 5 a5 (put 6 (.d (.int .i64 i)) (put 7 a7 (put 8 (.d (.int .i64 1)) U))))) E σ1:=by
 refine Run.B7 ((fun (a0:AV) (a5:AV) (a6:AV) (a7:AV)=>fun (m:Nat)=>put 0 a0 (put 5 a5 (put 6 a6 (put 7 a7 (put 8 (.d (.int .i64 m)) U))))) _ _ _ _) (fun _=>E) (fun _=>σ1) (fun m=>1≤m∧i+m≤s.length∧∀q b,q < m→(s.drop i)[q]?=some b→CL GK b=true) (fun m=>s.length - m) ?_ 1 ⟨by omega,?_,?_⟩
 · rintro m ⟨h1,hm,hall⟩ ih
   have hw0:=wrap_add (show i+m≤9000000000000000000 by omega)
   have hw1:=BQ (show m+1≤9000000000000000000 by omega)
   have hend:(∀b,(s.drop i)[m]?=some b→CL GK b=false)→((s.drop i).takeWhile (CL GK)).length=m:=fun h=>by
    rw [En hall (by simp;omega) h];simp;omega
   by_cases hlt:i+m < s.length
   · obtain ⟨z,hz⟩:=Ba hlt
     have hz2:(s.drop i)[m]?=some z:=by rw [BK];exact hz
     have hstep:CL GK z=true→∀q b,q < m+1→(s.drop i)[q]?=some b→CL GK b=true:=fun hc q b hq hb=>by
      rcases Cf q m with h2|h2
      · exact hall q b h2 hb
      · have:q=m:=by omega
        subst this;rw [hz2] at hb;cases hb;exact hc
     (repeat' (first|refine Run.ct rfl ?_|((first|refine Run.reg mixed ?_|refine Run.AJ ?_|refine AG.det (I9 _ _) ?_|refine AG.det (Ia _ _) ?_|refine AG.det (HM _ _) ?_|(refine AP rfl (fun h=>?_) (fun h=>?_)<;>try (cases h;done)))<;>try simp -implicitDefEqProofs only [hw0,hw1,BG hlt,Cz hz,go_sem])|(refine ⟨fun h=>?_,fun h=>?_⟩<;>first|(cases h;done)|try simp only [h])|fail))
     all_goals first
      |exact ih (m+1) ⟨by omega,by omega,hstep (by simp_all [dM])⟩ (by omega)
      |(rw [hend (fun b hb=>by rw [hz2] at hb;cases hb;simp_all [dM])] at hk;refine Run.Ov [0,5,6,7,8] ?_;simp -implicitDefEqProofs only [go_sem];exact hk)
   · (repeat' (first|refine Run.ct rfl ?_|((first|refine Run.reg mixed ?_|refine Run.AJ ?_)<;>try simp -implicitDefEqProofs only [hw0,E0 hlt,go_sem])|fail))
     rw [hend (fun b hb=>by rw [BK,J3 (by omega)] at hb;cases hb)] at hk
     refine Run.Ov [0,5,6,7,8] ?_;simp -implicitDefEqProofs only [go_sem]
     exact hk
 · have:=(A9.1 hx).1;omega
 · intro q b hq hb
   have:q=0:=by omega
   subst this
   rw [BK,EY,hx] at hb;cases hb;exact hw
theorem Y4 (s:Str) (i:Nat) (x:UInt8) (hx:s[i]?=some x) (hw:CL Eg x=true) (hl:s.length≤16384) (σ1:AM) (a5 a7:AV) (K:AV→AM→Prop) (k:List CI)
 (hk:Run GL K k (put 0 (.d (.str s)) (put 5 a5 (put 6 (.d (.int .i64 i)) (put 7 a7 (put 8 (.d (.int .i64 (((s.drop i).takeWhile (CL Eg)).length:Nat))) U))))) E σ1):
 Run GL K (.again TZ::.blk 7::k) (put 0 (.d (.str s)) (put 5 a5 (put 6 (.d (.int .i64 i)) (put 7 a7 (put 8 (.d (.int .i64 1)) U))))) E σ1:=by
 refine Run.B7 ((fun (a0:AV) (a5:AV) (a6:AV) (a7:AV)=>fun (m:Nat)=>put 0 a0 (put 5 a5 (put 6 a6 (put 7 a7 (put 8 (.d (.int .i64 m)) U))))) _ _ _ _) (fun _=>E) (fun _=>σ1) (fun m=>1≤m∧i+m≤s.length∧∀q b,q < m→(s.drop i)[q]?=some b→CL Eg b=true) (fun m=>s.length - m) ?_ 1 ⟨by omega,?_,?_⟩
 · rintro m ⟨h1,hm,hall⟩ ih
   have hw0:=wrap_add (show i+m≤9000000000000000000 by omega)
   have hw1:=BQ (show m+1≤9000000000000000000 by omega)
   have hend:(∀b,(s.drop i)[m]?=some b→CL Eg b=false)→((s.drop i).takeWhile (CL Eg)).length=m:=fun h=>by
    rw [En hall (by simp;omega) h];simp;omega
   by_cases hlt:i+m < s.length
   · obtain ⟨z,hz⟩:=Ba hlt
     have hz2:(s.drop i)[m]?=some z:=by rw [BK];exact hz
     have hstep:CL Eg z=true→∀q b,q < m+1→(s.drop i)[q]?=some b→CL Eg b=true:=fun hc q b hq hb=>by
      rcases Cf q m with h2|h2
      · exact hall q b h2 hb
      · have:q=m:=by omega
        subst this;rw [hz2] at hb;cases hb;exact hc
     cases hd:Eg z.toNat with
     |true=>
      (repeat' (first|refine Run.ct rfl ?_|((first|refine Run.reg mixed ?_|refine Run.AJ ?_|refine AG.det (HM _ _) ?_)<;>try simp -implicitDefEqProofs only [hw0,hw1,BG hlt,Cz hz,hd,go_sem])|fail))
      exact ih (m+1) ⟨by omega,by omega,hstep hd⟩ (by omega)
     |false=>
      (repeat' (first|refine Run.ct rfl ?_|((first|refine Run.reg mixed ?_|refine Run.AJ ?_|refine AG.det (HM _ _) ?_)<;>try simp -implicitDefEqProofs only [hw0,hw1,BG hlt,Cz hz,hd,go_sem])|fail))
      rw [hend (fun b hb=>by rw [hz2] at hb;cases hb;exact hd)] at hk
      refine Run.Ov [0,5,6,7,8] ?_;simp -implicitDefEqProofs only [go_sem]
      exact hk
   · (repeat' (first|refine Run.ct rfl ?_|((first|refine Run.reg mixed ?_|refine Run.AJ ?_)<;>try simp -implicitDefEqProofs only [hw0,E0 hlt,go_sem])|fail))
     rw [hend (fun b hb=>by rw [BK,J3 (by omega)] at hb;cases hb)] at hk
     refine Run.Ov [0,5,6,7,8] ?_;simp -implicitDefEqProofs only [go_sem]
     exact hk
 · have:=(A9.1 hx).1;omega
 · intro q b hq hb
   have:q=0:=by omega
   subst this
   rw [BK,EY,hx] at hb;cases hb;exact hw
theorem gF {c:UInt8→Bool} (s:Str) (i:Nat) (hi:i≤s.length):S2 (.d (.str s)) (some (.d (.int .i64 (i:Int)))) (some (.d (.int .i64 ((i+((s.drop i).takeWhile c).length:Nat):Int))))=some (.d (.str ((s.drop i).takeWhile c))):=by
 have h:=Ef c (s.drop i)
 rw [Ai] at h
 rw [tH (by omega) (by omega),K4,Nat.add_sub_cancel_left]
 congr 3
 exact (List.prefix_iff_eq_take.1 (List.takeWhile_prefix c)).symm
theorem tJ (s:Str) (i n:Nat) (hi:i≤s.length) (hn:n≤(s.drop i).length):S2 (.d (.str s)) (some (.d (.int .i64 (i:Int)))) (some (.d (.int .i64 ((i+n:Nat):Int))))=some (.d (.str ((s.drop i).take n))):=by
 rw [Ai] at hn
 rw [tH (by omega) (by omega),K4,Nat.add_sub_cancel_left]
theorem gC:∀(b:UInt8) (r:Str),Fy (b::r)≤(b::r).length
 |b,[]=>by simp only [Fy,Zk];split<;>simp
 |b,c::r=>by
  simp only [Fy]
  cases Zl b c
  · simp only [Zk,AU,if_false];split<;>simp
  · simp
set_option maxHeartbeats 4000000 in
theorem fO (s:Str) (σ:AM):AR Tryz.prog 29 [.d (.str s)] σ (fun v σ'=>v=Hd (BJ s)∧σ'=σ):=by
 refine iS (by simp) ?_
 rw [BC]
 by_cases hl:s.length>16384
 · (repeat' (first|refine Run.ct rfl ?_|((first|refine Run.reg mixed ?_|refine Run.AJ ?_|refine Run.Aa Gx (AM.le_refl _) ?_)<;>try simp -implicitDefEqProofs only [q8,decide_eq_true hl,go_sem])|fail))
   simp [Hd,BJ,hl]
 · (repeat' (first|refine Run.ct rfl ?_|((first|refine Run.reg mixed ?_|refine Run.AJ ?_)<;>try simp -implicitDefEqProofs only [q8,decide_eq_false hl,go_sem])|fail))
   refine Run.B1 ?_
   refine Run.B7 ((fun (a0:AV)=>fun (y:Nat×AV×AM)=>put 0 a0 (put 5 (y.2.1) (put 6 (.d (.int .i64 y.1)) U))) _) (fun _=>E) (fun y=>y.2.2) (fun y=>y.1≤s.length∧∃acc n,EZ σ 58 3 (acc.map Tok.enc) y.2.1 y.2.2∧acc.length≤y.1∧s.length - y.1 < n∧BJ s=DZ n (s.drop y.1) y.1 acc) (fun y=>s.length - y.1) ?_ (0,.AX,σ) ⟨by simp,[],s.length+1,EZ.nil _ _ _,by simp,by simp,by simp [BJ,hl]⟩
   rintro ⟨i,v,σ1⟩ ⟨hi,acc,n,ho,hac,hn,hs⟩ ih
   simp only at hi ho hac hn hs
   obtain ⟨n,rfl⟩:∃m,n=m+1:=⟨n - 1,by omega⟩
   by_cases hlt:i < s.length
   · obtain ⟨x,hx⟩:=Ba hlt
     rw [E9 hx,DZ] at hs
     have hw1:=BQ (show i+1≤9000000000000000000 by omega)
     have hsl:(x::s.drop (i+1)).length=s.length - i:=by simp;omega
     cases hb:Ts x.toNat with
     |true=>
      rw [hb,if_pos rfl] at hs
      (repeat' (first|refine Run.ct rfl ?_|((first|refine Run.reg mixed ?_|refine Run.AJ ?_|(refine AP rfl (fun h=>?_) (fun h=>?_)<;>try (cases h;done)))<;>try simp -implicitDefEqProofs only [BG hlt,Cz hx,hw1,go_sem])|(refine ⟨fun h=>?_,fun h=>?_⟩<;>first|(cases h;done)|try simp only [h])|fail))
      all_goals first
       |exact ih (i+1,v,σ1) ⟨hlt,acc,n,ho,by simp only;omega,by simp only;omega,hs⟩ (by simp only;omega)
       |(exfalso;simp_all [Ts];done)
     |false=>
      rw [hb,if_neg (by simp)] at hs
      simp only [Ts,Dq] at hb
      obtain ⟨⟨⟨h9,h10⟩,h13⟩,h32⟩:=hb
      cases hc:(x==35) with
      |true=>
       rw [hc,if_pos rfl] at hs
       (repeat' (first|refine Run.ct rfl ?_|((first|refine Run.reg mixed ?_|refine Run.AJ ?_)<;>try simp -implicitDefEqProofs only [BG hlt,Cz hx,h9,h10,h13,h32,QW,hc,go_sem])|fail))
       refine Run.Ov [0,5,6] ?_;simp -implicitDefEqProofs only [go_sem]
       refine Run.B1 ?_
       refine Run.B7 ((fun (a0:AV) (a5:AV)=>fun (j:Nat)=>put 0 a0 (put 5 a5 (put 6 (.d (.int .i64 j)) U))) _ _) (fun _=>E) (fun _=>σ1) (fun j=>i≤j∧j≤s.length∧∀q b,q < j - i→(s.drop i)[q]?=some b→(!(b==10))=true) (fun j=>s.length - j) ?_ i ⟨A7 i,hi,by intro q b hq;omega⟩
       rintro j ⟨hij,hj,hall⟩ ih2
       have hw2:=BQ (show j+1≤9000000000000000000 by omega)
       have hend:(∀z,s[j]?=some z→(z==10)=true)→j≠i∧BJ s=DZ n (s.drop j) j acc:=fun hz=>by
        have hji:j≠i:=fun e=>by
         subst e
         have h10:=hz x hx
         simp only [beq_iff_eq] at hc h10
         rw [hc] at h10;exact absurd h10 (by decide)
        have hk:cmt (x::s.drop (i+1))=j - i:=by
         rw [← E9 hx,cmt,En hall (by simp;omega) (fun b hb=>by
          rw [BK,show i+(j - i)=j by omega] at hb
          simp [hz b hb])]
         simp;omega
        rw [hk,← E9 hx,CD,show i+(j - i)=j by omega] at hs
        exact ⟨hji,hs⟩
       by_cases hjl:j < s.length
       · obtain ⟨z,hz⟩:=Ba hjl
         have hz2:(s.drop i)[j - i]?=some z:=by rw [BK,show i+(j - i)=j by omega];exact hz
         cases h10:(z==10) with
         |true=>
          obtain ⟨hji,hs⟩:=hend (fun z' hz'=>by rw [hz] at hz';cases hz';exact h10)
          (repeat' (first|refine Run.ct rfl ?_|((first|refine Run.reg mixed ?_|refine Run.AJ ?_)<;>try simp -implicitDefEqProofs only [BG hjl,Cz hz,dG,bne,h10,go_sem])|fail))
          refine Run.Ov [0,5,6] ?_;simp -implicitDefEqProofs only [go_sem]
          exact ih (j,v,σ1) ⟨hj,acc,n,ho,by simp only;omega,by simp only;omega,hs⟩ (by simp only;omega)
         |false=>
          (repeat' (first|refine Run.ct rfl ?_|((first|refine Run.reg mixed ?_|refine Run.AJ ?_)<;>try simp -implicitDefEqProofs only [BG hjl,Cz hz,dG,bne,h10,hw2,go_sem])|fail))
          refine ih2 (j+1) ⟨by omega,hjl,fun q b hq hb=>?_⟩ (by omega)
          rcases Cf q (j - i) with h2|h2
          · exact hall q b h2 hb
          · have:q=j - i:=by omega
            subst this
            rw [hz2] at hb;cases hb;simp [h10]
       · obtain ⟨hji,hs⟩:=hend (fun z hz=>by rw [J3 (by omega)] at hz;cases hz)
         (repeat' (first|refine Run.ct rfl ?_|((first|refine Run.reg mixed ?_|refine Run.AJ ?_)<;>try simp -implicitDefEqProofs only [E0 hjl,go_sem])|fail))
         refine Run.Ov [0,5,6] ?_;simp -implicitDefEqProofs only [go_sem]
         exact ih (j,v,σ1) ⟨hj,acc,n,ho,by simp only;omega,by simp only;omega,hs⟩ (by simp only;omega)
      |false=>
       rw [hc,if_neg (by simp)] at hs
       have hld:s.drop i=x::s.drop (i+1):=E9 hx
       have hss:S2 (.d (.str s)) (some (.d (.int .i64 (i:Int)))) none=some (.d (.str (x::s.drop (i+1)))):=by rw [tI hi,hld]
       -- behind a token
       have next:∀(k:Int) (t:Str) (v2:AV) (σ2:AM),D3 (x::s.drop (i+1))= .ok (k,t)→EZ σ 58 3 (acc.map Tok.enc++[[.int .i64 k,.str t,.int .i64 i]]) v2 σ2→
        1≤t.length∧i+t.length≤s.length∧(i+t.length≤s.length∧∃acc n,EZ σ 58 3 (acc.map Tok.enc) v2 σ2∧acc.length≤i+t.length∧s.length - (i+t.length) < n∧BJ s=DZ n (s.drop (i+t.length)) (i+t.length) acc):=fun k t v2 σ2 hsc ho2=>by
        have hsn:=PN hsc
        rw [hsl] at hsn
        rw [hsc] at hs
        refine ⟨hsn.1,by omega,by omega,acc++[⟨k,t,i⟩],n,by simpa [Tok.enc] using ho2,by simp only [AA,List.length_singleton];omega,by omega,?_⟩
        rw [hs];simp only;rw [← E9 hx,CD]
       have fail:∀e:Int,D3 (x::s.drop (i+1))= .error e→BJ s=([],i,e):=fun e he=>by rw [hs,he]
       have hwd:=gF (c:=CL GK) s i hi
       have hdd:=gF (c:=CL Eg) s i hi
       have hsg:=tJ s i (Fy (x::s.drop (i+1))) hi (by rw [hld];exact gC _ _)
       have hwl:=Ef (CL GK) (s.drop i)
       have hdl:=Ef (CL Eg) (s.drop i)
       have hsl2:=gC x (s.drop (i+1))
       have hL1:=Y3 s i x hx
       have hL2:=Y4 s i x hx
       rw [hld] at hwd hdd hsg hwl hdl hL1 hL2
       simp only [hsl] at hwl hdl hsl2
       have hw0:=fun n (h:n≤s.length - i)=>wrap_add (show i+n≤9000000000000000000 by omega)
       have hap:∀(r:List DV),r.length=3→∀q∈[r],q.length=3:=fun r hr q hq=>by rw [Dn] at hq;rw [hq];exact hr
       have gt24':=ABO
       have gt1':=gt1
       by_cases hlu:(MV x.toNat||KY x.toNat)=true
       · have hwx:CL GK x=true:=by rw [dM,hlu];rfl
         have hsc:D3 (x::s.drop (i+1))=if decide (((x::s.drop (i+1)).takeWhile (CL GK)).length>24) then .error 9
                                                                                 else if KY x.toNat then .ok (2,(x::s.drop (i+1)).takeWhile (CL GK))
                                                                                 else if SE ((x::s.drop (i+1)).takeWhile (CL GK)) then .ok (4,(x::s.drop (i+1)).takeWhile (CL GK))
                                                                                 else .ok (1,(x::s.drop (i+1)).takeWhile (CL GK)):=by rw [D3,if_pos hlu]
         have hL:=fun K k=>hL1 hwx (by omega) σ1 v (.d (.int .u8 x.toNat)) K k
         generalize ((x::s.drop (i+1)).takeWhile (CL GK))=w at hwd hwl hsc hL
         have hwn:=hw0 w.length hwl
         cases hup:KY x.toNat<;>cases hlo:MV x.toNat<;>rw [hup] at hsc<;>first|(simp only [hup,hlo,Bool.or_self,AU] at hlu;done)|skip
         all_goals (repeat' (first|refine Run.ct rfl ?_|((first|refine Run.reg mixed ?_|refine Run.AJ ?_|(refine Run.B1 ?_;refine Run.Ov [0,5,6,7,8] ?_;simp -implicitDefEqProofs only [go_sem];refine hL _ _ ?_)|(refine L2.own ho rfl (by simp) (by simp;omega) (by decide) (fun v2 σ2 ho2 hbk=>?_))|(refine Run.Aa Gx ho.le ?_)|refine AG.det (I9 _ _) ?_|refine AG.det (Ia _ _) ?_|refine AG.det (Ze _ _) ?_)<;>try simp -implicitDefEqProofs only [hup,hlo,BG hlt,Cz hx,h9,h10,h13,h32,QW,hc,hwn,hwd,gt24',ho.BS,AU,go_sem])|(refine ⟨fun h=>?_,fun h=>?_⟩<;>first|(cases h;done)|try simp only [h])|fail))
         all_goals first
          |(obtain ⟨p1,p2,p3⟩:=next _ w _ _ (by rw [hsc];simp only [*,AU,reduceIte,BB,D2,BH,EX,Ih,Ig]) ho2;exact ih (i+w.length,_,_) p3 (by simp only;omega))
          |(rw [fail 9 (by rw [hsc];simp only [*,AU,reduceIte,BB,D2,BH,EX,Ih,Ig])];simp [Hd];done)
       · simp only [Qd,Dq] at hlu
         have hnlu:¬(MV x.toNat||KY x.toNat)=true:=by simp [hlu]
         cases hdg:Eg x.toNat with
         |true=>
          have hsc:D3 (x::s.drop (i+1))=if x==48&&decide (((x::s.drop (i+1)).takeWhile (CL Eg)).length>1) then .error 2
                                                                                         else if (Ez ((x::s.drop (i+1)).takeWhile (CL Eg)) 0).isSome then .ok (3,(x::s.drop (i+1)).takeWhile (CL Eg))
                                                                                         else .error 9:=by rw [D3,if_neg hnlu,if_pos hdg]
          have hL:=fun K k=>hL2 hdg (by omega) σ1 v (.d (.int .u8 x.toNat)) K k
          generalize ((x::s.drop (i+1)).takeWhile (CL Eg))=w at hdd hdl hsc hL
          have hwn:=hw0 w.length hdl
          have hval:=fP w σ1 (by omega)
          cases hv:Ez w 0 with
          |some z=>
           rw [hv] at hval
           (repeat' (first|refine Run.ct rfl ?_|((first|refine Run.reg mixed ?_|refine Run.AJ ?_|(refine Run.B1 ?_;refine Run.Ov [0,5,6,7,8] ?_;simp -implicitDefEqProofs only [go_sem];refine hL _ _ ?_)|(refine L2.own ho rfl (by simp) (by simp;omega) (by decide) (fun v2 σ2 ho2 hbk=>?_))|(refine Run.Aa Gx ho.le ?_)|refine AG.det (I9 _ _) ?_|refine AG.det (Ia _ _) ?_|refine AG.det (HM _ _) ?_|refine AG.det (hval) ?_|(refine AP rfl (fun h=>?_) (fun h=>?_)<;>try (cases h;done)))<;>try simp -implicitDefEqProofs only [BG hlt,Cz hx,h9,h10,h13,h32,QW,hc,hwn,hdd,gt1',tS,hlu.1,hlu.2,hdg,ho.BS,AU,go_sem])|(refine ⟨fun h=>?_,fun h=>?_⟩<;>first|(cases h;done)|try simp only [h])|fail))
           all_goals first
            |(obtain ⟨p1,p2,p3⟩:=next _ w _ _ (by rw [hsc];simp only [*,AU,reduceIte,BB,D2,BH,EX,Ih,Ig]) ho2;exact ih (i+w.length,_,_) p3 (by simp only;omega))
            |(rw [fail 2 (by rw [hsc];simp only [*,AU,reduceIte,BB,D2,BH,EX,Ih,Ig])];simp [Hd];done)
          |none=>
           rw [hv] at hval
           (repeat' (first|refine Run.ct rfl ?_|((first|refine Run.reg mixed ?_|refine Run.AJ ?_|(refine Run.B1 ?_;refine Run.Ov [0,5,6,7,8] ?_;simp -implicitDefEqProofs only [go_sem];refine hL _ _ ?_)|(refine L2.own ho rfl (by simp) (by simp;omega) (by decide) (fun v2 σ2 ho2 hbk=>?_))|(refine Run.Aa Gx ho.le ?_)|refine AG.det (I9 _ _) ?_|refine AG.det (Ia _ _) ?_|refine AG.det (HM _ _) ?_|refine AG.det (hval) ?_|(refine AP rfl (fun h=>?_) (fun h=>?_)<;>try (cases h;done)))<;>try simp -implicitDefEqProofs only [BG hlt,Cz hx,h9,h10,h13,h32,QW,hc,hwn,hdd,gt1',tS,hlu.1,hlu.2,hdg,ho.BS,AU,go_sem])|(refine ⟨fun h=>?_,fun h=>?_⟩<;>first|(cases h;done)|try simp only [h])|fail))
           all_goals first
            |(rw [fail 2 (by rw [hsc];simp only [*,AU,reduceIte,BB,D2,BH,EX,Ih,Ig])];simp [Hd];done)
            |(rw [fail 9 (by rw [hsc];simp only [*,AU,reduceIte,BB,D2,BH,EX,Ih,Ig])];simp [Hd];done)
         |false=>
          have hsc:D3 (x::s.drop (i+1))=if (x::s.drop (i+1)).take (Fy (x::s.drop (i+1)))==[] then .error 2 else .ok (5,(x::s.drop (i+1)).take (Fy (x::s.drop (i+1)))):=by rw [D3,if_neg hnlu,if_neg (by simp [hdg])]
          have hsk:=j3 (x::s.drop (i+1)) σ1 (by simp)
          have hwn:=hw0 (Fy (x::s.drop (i+1))) hsl2
          have htl:((x::s.drop (i+1)).take (Fy (x::s.drop (i+1)))).length=Fy (x::s.drop (i+1)):=by rw [B2,hsl];omega
          generalize Fy (x::s.drop (i+1))=m at hsc hsk hwn hsg hsl2 htl
          generalize ((x::s.drop (i+1)).take m)=w at hsc hsg htl
          have hz:((m:Int)==0)=(w==[]):=by
           rw [Dg];simp only [beq_iff_eq]
           rw [← XU,htl];omega
          cases hw:(w==[]) with
          |true=>
           (repeat' (first|refine Run.ct rfl ?_|((first|refine Run.reg mixed ?_|refine Run.AJ ?_|(refine Run.Aa Gx ho.le ?_)|refine AG.det (I9 _ _) ?_|refine AG.det (Ia _ _) ?_|refine AG.det (HM _ _) ?_|refine AG.det (hsk) ?_)<;>try simp -implicitDefEqProofs only [BG hlt,Cz hx,h9,h10,h13,h32,QW,hc,hss,hwn,hsg,hlu.1,hlu.2,hdg,hz,hw,ho.BS,AU,go_sem])|fail))
           rw [fail 2 (by rw [hsc,if_pos hw])];simp [Hd]
          |false=>
           (repeat' (first|refine Run.ct rfl ?_|((first|refine Run.reg mixed ?_|refine Run.AJ ?_|(refine L2.own ho rfl (by simp) (by simp;omega) (by decide) (fun v2 σ2 ho2 hbk=>?_))|(refine Run.Aa Gx ho.le ?_)|refine AG.det (I9 _ _) ?_|refine AG.det (Ia _ _) ?_|refine AG.det (HM _ _) ?_|refine AG.det (hsk) ?_)<;>try simp -implicitDefEqProofs only [BG hlt,Cz hx,h9,h10,h13,h32,QW,hc,hss,hwn,hsg,hlu.1,hlu.2,hdg,hz,hw,ho.BS,AU,go_sem])|fail))
           obtain ⟨p1,p2,p3⟩:=next 5 w _ _ (by rw [hsc,if_neg (by simp [hw])]) ‹_›
           rw [htl] at p1 p2 p3
           exact ih (i+m,_,_) p3 (by simp only;omega)
   · have hge:i=s.length:=by omega
     rw [hge,Qe,DZ] at hs
     (repeat' (first|refine Run.ct rfl ?_|((first|refine Run.reg mixed ?_|refine Run.AJ ?_|(refine L2.own ho rfl (by simp) (by simp;omega) (by decide) (fun v2 σ2 ho2 hbk=>?_))|(refine Run.Aa Gx ho2.le ?_))<;>try simp -implicitDefEqProofs only [E0 hlt,go_sem])|fail))
     simp -implicitDefEqProofs only [ho2.Au,ho2.plain,go_sem]
     rw [hs];simp [Hd,Tok.enc]
end Go.Ab
