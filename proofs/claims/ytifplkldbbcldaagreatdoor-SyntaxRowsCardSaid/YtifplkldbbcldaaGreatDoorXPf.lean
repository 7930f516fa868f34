/- The parser: types. Texts split into tokens, as the reference does it. Conditions: none. -/
import Derived.Test.YtifplkldbbcldaaGreatDoorXDt
set_option linter.unusedSimpArgs false
set_option linter.unusedVariables false
set_option maxRecDepth 4000
set_option maxHeartbeats 8000000
open List renaming map_cons→AF,map_nil→AI,mem_map→Gl,length_pos_iff→An,length_map→AE,length_cons→AD,length_nil→AG,map_append→BU,getElem?_drop→BJ,getElem?_eq_none→J1,getElem?_eq_some_iff→A8,length_drop→Ag,drop_take→KY,drop_drop→CH,length_append→AA,mem_singleton→Ev,length_take→B2,length_eq_zero_iff→XH,drop_length→Q5
open Bool renaming false_eq_true→AU,or_eq_false_iff→Cw,and_true→BF,and_false→D5,true_and→BG,false_and→FJ,not_eq_true→Q4,eq_iff_iff→Di
open Nat renaming lt_or_ge→Cl,add_zero→E2,le_refl→A7
open Option renaming isSome_some→If,isSome_none→Ie
namespace Go.Ab
open Go.Proofs
variable {α β:Type}
theorem run_bind (m:PM α) (k:α→PM β) (s:PSt):(m.bind k).run s=(k (m.run s).1).run (m.run s).2:=rfl
theorem run_pure (a:α) (s:PSt):(PM.pure a).run s=(a,s):=rfl
theorem sF (a:α) (s:PSt):(PM.fail a).run s=(a,s.fail):=rfl
theorem run_map (g:α→β) (m:PM α) (s:PSt):(m.map g).run s=(g (m.run s).1,(m.run s).2):=rfl
theorem eW (k:Int) (y n:PM α) (s:PSt):(PM.kind k y n).run s=if (s.hd.kind==k)=true then y.run s else n.run s:=rfl
theorem HY (t:Str) (ht:t≠[]) (y n:PM α) (s:PSt):(PM.acc t ht y n).run s=if (s.hd.text==t)=true then y.run s.adv else n.run s:=rfl
theorem DH (i:Nat) (L:List Tok) (n:Nat) (t:Str) (ht:t≠[]):PC 127 [.gp i 0,.d (.str t)] i L n (PM.exp t ht) (fun _=>.tup []):=fun σ s _ h1 _ h3=>Tq h1 t ht σ h3
theorem SW (i:Nat) (L:List Tok) (n:Nat):PC 124 [.gp i 0,.d (.int .i64 2)] i L n FG (fun x=>.d (.str x)):=cF i L n 2 (by decide)
theorem kB (i:Nat) (L:List Tok) (n:Nat) {T:PM TE} (hT:PC 168 [.gp i 0] i L n T teA) (k:Int):PC 184 [.gp i 0,.d (.int .i64 k)] i L n (SA k T) teA:=by
 intro σ s0 g0 h0 l0 b0
 refine O5 (by simp) ?_
 rw [BI]
 simp only [SA,run_bind,run_pure,teA,TE.A0,AF,AI]
 (have c0:=(DH i L n [40] (by decide)) σ s0 g0 h0 (by omega) b0;have h1:=h0.run (PM.exp [40] (by decide));have l1:=PM.le (PM.exp [40] (by decide)) h0.wf;generalize (PM.exp [40] (by decide)).run s0=y at c0 h1 l1 ⊢;obtain ⟨x0,s1⟩:=y;simp only at c0 h1 l1 ⊢;have b1:(σ.AM i (psA L s1)).blk i=some (psA L s1):=(by rw [AO,if_pos rfl]))
 (have c1:=hT (σ.AM i (psA L s1)) s1 g0 h1 (by omega) b1;rw [A2] at c1;have h2:=h1.run (T);have l2:=PM.le (T) h1.wf;generalize (T).run s1=y at c1 h2 l2 ⊢;obtain ⟨x1,s2⟩:=y;simp only at c1 h2 l2 ⊢;have b2:(σ.AM i (psA L s2)).blk i=some (psA L s2):=(by rw [AO,if_pos rfl]);obtain ⟨k0,n0,a0⟩:=x1;simp only [teA,TE.A0,AF,AI] at c1 ⊢)
 (have c2:=(DH i L n [41] (by decide)) (σ.AM i (psA L s2)) s2 g0 h2 (by omega) b2;rw [A2] at c2;have h3:=h2.run (PM.exp [41] (by decide));have l3:=PM.le (PM.exp [41] (by decide)) h2.wf;generalize (PM.exp [41] (by decide)).run s2=y at c2 h3 l3 ⊢;obtain ⟨x2,s3⟩:=y;simp only at c2 h3 l3 ⊢;have b3:(σ.AM i (psA L s3)).blk i=some (psA L s3):=(by rw [AO,if_pos rfl]))
 (repeat' (first|refine Run.ct rfl ?_|((first|refine Run.reg mixed ?_|refine Run.AJ ?_|refine Run.A9 I2 (AN.le_refl _) ?_|(refine AH.upd c0 ?_)|(refine AH.upd c1 ?_)|(refine AH.upd c2 ?_)|(refine AR rfl (fun h=>?_) (fun h=>?_)<;>try (cases h;done)))<;>try simp -implicitDefEqProofs only [go_sem])|(refine ⟨fun h=>?_,fun h=>?_⟩<;>first|(cases h;done)|try simp only [h])|fail))
theorem TE.iD (t:TE):t.enc.length=3:=by cases t;rw [TE.A0];rfl
theorem Mz {α:Type} {enc:α→List DV} (z:Nat) (l:List α) (h:∀x,(enc x).length=z):∀r∈l.map enc,r.length=z:=fun r hr=>by
 obtain ⟨x,_,rfl⟩:=Gl.1 hr
 exact h x
theorem Xk:Ar Tryz.prog 168=true:=by kernel_rfl
set_option maxHeartbeats 4000000 in
theorem sY (i:Nat) (L:List Tok):∀n,PC 168 [.gp i 0] i L n (Fl n) teA
 |0=>fun σ s _ h1 h2 h3=>by have:=An.2 h1.wf.ne;omega
 |n+1=>by
  have ih:=sY i L n
  intro σ s0 g0 h0 l0 b0
  refine Sw (by simp) ?_
  rw [BE]
  have hpk:=Pv h0 σ b0
  rw [Fl]
  simp only [eW,HY]
  cases hk1:s0.hd.kind==1 with
  |true=>
   simp only [if_true,run_bind,run_pure,teA,TE.A0,AF,AI]
   (have c0:=(Ps i L (n+1)) σ s0 g0 h0 (by omega) b0;have h1:=h0.run (FB);have l1:=PM.le (FB) h0.wf;generalize (FB).run s0=y at c0 h1 l1 ⊢;obtain ⟨x0,s1⟩:=y;simp only at c0 h1 l1 ⊢;have b1:(σ.AM i (psA L s1)).blk i=some (psA L s1):=(by rw [AO,if_pos rfl]))
   (repeat' (first|refine Run.ct rfl ?_|((first|refine Run.reg mixed ?_|refine Run.AJ ?_|refine Run.A9 BQ (AN.le_refl _) ?_|(refine AH.upd c0 ?_)|refine AH.det (hpk) ?_|(refine AR rfl (fun h=>?_) (fun h=>?_)<;>try (cases h;done)))<;>try simp -implicitDefEqProofs only [hk1,go_sem])|(refine ⟨fun h=>?_,fun h=>?_⟩<;>first|(cases h;done)|try simp only [h])|fail))
  |false=>
  cases hk2:s0.hd.kind==2 with
  |true=>
   simp only [if_true,if_false,AU,run_bind,run_pure,teA,TE.A0,AF,AI]
   (have c0:=(SW i L (n+1)) σ s0 g0 h0 (by omega) b0;have h1:=h0.run (FG);have l1:=PM.le (FG) h0.wf;generalize (FG).run s0=y at c0 h1 l1 ⊢;obtain ⟨x0,s1⟩:=y;simp only at c0 h1 l1 ⊢;have b1:(σ.AM i (psA L s1)).blk i=some (psA L s1):=(by rw [AO,if_pos rfl]))
   (have c1:=(JR i L n Xk ih).pc (σ.AM i (psA L s1)) s1 g0 h1 (by omega) b1;rw [A2] at c1;have h2:=h1.run (Ht (Fl n));have l2:=PM.le (Ht (Fl n)) h1.wf;generalize (Ht (Fl n)).run s1=y at c1 h2 l2 ⊢;obtain ⟨x1,s2⟩:=y;simp only at c1 h2 l2 ⊢;have b2:(σ.AM i (psA L s2)).blk i=some (psA L s2):=(by rw [AO,if_pos rfl]))
   (repeat' (first|refine Run.ct rfl ?_|((first|refine Run.reg mixed ?_|refine Run.AJ ?_|refine Run.A9 BQ (AN.le_refl _) ?_|(refine AH.upd c0 ?_)|(refine AH.upd c1 ?_)|refine AH.det (hpk) ?_|(refine AR rfl (fun h=>?_) (fun h=>?_)<;>try (cases h;done)))<;>try simp -implicitDefEqProofs only [hk1,hk2,go_sem])|(refine ⟨fun h=>?_,fun h=>?_⟩<;>first|(cases h;done)|try simp only [h])|fail))
  |false=>
  simp only [if_false,AU]
  cases t1:s0.hd.text==[105,110,116] with
  |true=>
   simp only [if_true,run_pure,teA,TE.A0,AF,AI]
   (have c0:=DG h0 [105,110,116] σ b0 t1;have h1:=h0.adv (t:=[105,110,116]) (by decide) t1;have l1:=BR h0.wf;generalize s0.adv=s1 at c0 h1 l1 ⊢;have b1:(σ.AM i (psA L s1)).blk i=some (psA L s1):=by rw [AO,if_pos rfl])
   (repeat' (first|refine Run.ct rfl ?_|((first|refine Run.reg mixed ?_|refine Run.AJ ?_|refine Run.A9 BQ (AN.le_refl _) ?_|(refine AH.upd c0 ?_)|refine AH.det (hpk) ?_|(refine AR rfl (fun h=>?_) (fun h=>?_)<;>try (cases h;done)))<;>try simp -implicitDefEqProofs only [hk1,hk2,go_sem])|(refine ⟨fun h=>?_,fun h=>?_⟩<;>first|(cases h;done)|try simp only [h])|fail))
  |false=>
  have f1:=DF h0 _ σ b0 t1
  cases t2:s0.hd.text==[98,111,111,108] with
  |true=>
   simp only [if_true,if_false,AU,run_pure,teA,TE.A0,AF,AI]
   (have c0:=DG h0 [98,111,111,108] σ b0 t2;have h1:=h0.adv (t:=[98,111,111,108]) (by decide) t2;have l1:=BR h0.wf;generalize s0.adv=s1 at c0 h1 l1 ⊢;have b1:(σ.AM i (psA L s1)).blk i=some (psA L s1):=by rw [AO,if_pos rfl])
   (repeat' (first|refine Run.ct rfl ?_|((first|refine Run.reg mixed ?_|refine Run.AJ ?_|refine Run.A9 BQ (AN.le_refl _) ?_|(refine AH.upd c0 ?_)|refine AH.det (hpk) ?_|refine AH.det (f1) ?_|(refine AR rfl (fun h=>?_) (fun h=>?_)<;>try (cases h;done)))<;>try simp -implicitDefEqProofs only [hk1,hk2,go_sem])|(refine ⟨fun h=>?_,fun h=>?_⟩<;>first|(cases h;done)|try simp only [h])|fail))
  |false=>
  have f2:=DF h0 _ σ b0 t2
  cases t3:s0.hd.text==[117,110,105,116] with
  |true=>
   simp only [if_true,if_false,AU,run_pure,teA,TE.A0,AF,AI]
   (have c0:=DG h0 [117,110,105,116] σ b0 t3;have h1:=h0.adv (t:=[117,110,105,116]) (by decide) t3;have l1:=BR h0.wf;generalize s0.adv=s1 at c0 h1 l1 ⊢;have b1:(σ.AM i (psA L s1)).blk i=some (psA L s1):=by rw [AO,if_pos rfl])
   (repeat' (first|refine Run.ct rfl ?_|((first|refine Run.reg mixed ?_|refine Run.AJ ?_|refine Run.A9 BQ (AN.le_refl _) ?_|(refine AH.upd c0 ?_)|refine AH.det (hpk) ?_|refine AH.det (f1) ?_|refine AH.det (f2) ?_|(refine AR rfl (fun h=>?_) (fun h=>?_)<;>try (cases h;done)))<;>try simp -implicitDefEqProofs only [hk1,hk2,go_sem])|(refine ⟨fun h=>?_,fun h=>?_⟩<;>first|(cases h;done)|try simp only [h])|fail))
  |false=>
  have f3:=DF h0 _ σ b0 t3
  cases t4:s0.hd.text==[97,114,114,97,121] with
  |true=>
   simp only [if_true,if_false,AU]
   (have c0:=DG h0 [97,114,114,97,121] σ b0 t4;have h1:=h0.adv (t:=[97,114,114,97,121]) (by decide) t4;have l1:=BR h0.wf;generalize s0.adv=s1 at c0 h1 l1 ⊢;have b1:(σ.AM i (psA L s1)).blk i=some (psA L s1):=by rw [AO,if_pos rfl])
   (have c1:=(kB i L n ih 7) (σ.AM i (psA L s1)) s1 g0 h1 (by omega) b1;rw [A2] at c1;have h2:=h1.run (SA 7 (Fl n));have l2:=PM.le (SA 7 (Fl n)) h1.wf;generalize (SA 7 (Fl n)).run s1=y at c1 h2 l2 ⊢;obtain ⟨x1,s2⟩:=y;simp only at c1 h2 l2 ⊢;have b2:(σ.AM i (psA L s2)).blk i=some (psA L s2):=(by rw [AO,if_pos rfl]);obtain ⟨k0,n0,a0⟩:=x1;simp only [teA,TE.A0,AF,AI] at c1 ⊢)
   (repeat' (first|refine Run.ct rfl ?_|((first|refine Run.reg mixed ?_|refine Run.AJ ?_|refine Run.A9 BQ (AN.le_refl _) ?_|(refine AH.upd c0 ?_)|(refine AH.upd c1 ?_)|refine AH.det (hpk) ?_|refine AH.det (f1) ?_|refine AH.det (f2) ?_|refine AH.det (f3) ?_|(refine AR rfl (fun h=>?_) (fun h=>?_)<;>try (cases h;done)))<;>try simp -implicitDefEqProofs only [hk1,hk2,go_sem])|(refine ⟨fun h=>?_,fun h=>?_⟩<;>first|(cases h;done)|try simp only [h])|fail))
  |false=>
  have f4:=DF h0 _ σ b0 t4
  cases t5:s0.hd.text==[114,101,102] with
  |true=>
   simp only [if_true,if_false,AU]
   (have c0:=DG h0 [114,101,102] σ b0 t5;have h1:=h0.adv (t:=[114,101,102]) (by decide) t5;have l1:=BR h0.wf;generalize s0.adv=s1 at c0 h1 l1 ⊢;have b1:(σ.AM i (psA L s1)).blk i=some (psA L s1):=by rw [AO,if_pos rfl])
   (have c1:=(kB i L n ih 8) (σ.AM i (psA L s1)) s1 g0 h1 (by omega) b1;rw [A2] at c1;have h2:=h1.run (SA 8 (Fl n));have l2:=PM.le (SA 8 (Fl n)) h1.wf;generalize (SA 8 (Fl n)).run s1=y at c1 h2 l2 ⊢;obtain ⟨x1,s2⟩:=y;simp only at c1 h2 l2 ⊢;have b2:(σ.AM i (psA L s2)).blk i=some (psA L s2):=(by rw [AO,if_pos rfl]);obtain ⟨k0,n0,a0⟩:=x1;simp only [teA,TE.A0,AF,AI] at c1 ⊢)
   (repeat' (first|refine Run.ct rfl ?_|((first|refine Run.reg mixed ?_|refine Run.AJ ?_|refine Run.A9 BQ (AN.le_refl _) ?_|(refine AH.upd c0 ?_)|(refine AH.upd c1 ?_)|refine AH.det (hpk) ?_|refine AH.det (f1) ?_|refine AH.det (f2) ?_|refine AH.det (f3) ?_|refine AH.det (f4) ?_|(refine AR rfl (fun h=>?_) (fun h=>?_)<;>try (cases h;done)))<;>try simp -implicitDefEqProofs only [hk1,hk2,go_sem])|(refine ⟨fun h=>?_,fun h=>?_⟩<;>first|(cases h;done)|try simp only [h])|fail))
  |false=>
  have f5:=DF h0 _ σ b0 t5
  cases t6:s0.hd.text==[40] with
  |true=>
   simp only [if_true,if_false,AU,run_bind,run_pure,teA,TE.A0,AF,AI]
   (have c0:=DG h0 [40] σ b0 t6;have h1:=h0.adv (t:=[40]) (by decide) t6;have l1:=BR h0.wf;generalize s0.adv=s1 at c0 h1 l1 ⊢;have b1:(σ.AM i (psA L s1)).blk i=some (psA L s1):=by rw [AO,if_pos rfl])
   (have c1:=ih (σ.AM i (psA L s1)) s1 g0 h1 (by omega) b1;rw [A2] at c1;have h2:=h1.run (Fl n);have l2:=PM.le (Fl n) h1.wf;generalize (Fl n).run s1=y at c1 h2 l2 ⊢;obtain ⟨x1,s2⟩:=y;simp only at c1 h2 l2 ⊢;have b2:(σ.AM i (psA L s2)).blk i=some (psA L s2):=(by rw [AO,if_pos rfl]);obtain ⟨k0,n0,a0⟩:=x1;simp only [teA,TE.A0,AF,AI] at c1 ⊢)
   (have c2:=(DH i L n [44] (by decide)) (σ.AM i (psA L s2)) s2 g0 h2 (by omega) b2;rw [A2] at c2;have h3:=h2.run (PM.exp [44] (by decide));have l3:=PM.le (PM.exp [44] (by decide)) h2.wf;generalize (PM.exp [44] (by decide)).run s2=y at c2 h3 l3 ⊢;obtain ⟨x2,s3⟩:=y;simp only at c2 h3 l3 ⊢;have b3:(σ.AM i (psA L s3)).blk i=some (psA L s3):=(by rw [AO,if_pos rfl]))
   (have d3:=fun tk:Nat=>(Ed i L n Xk ih).pc ((σ.AM i (psA L s3)).BW tk) s3 g0 h3 (by omega) (by rw [Fx];exact b3);have c3:=(Ed i L n Xk ih).pc (σ.AM i (psA L s3)) s3 g0 h3 (by omega) b3;rw [A2] at c3;have h4:=h3.run (listed (Fl n));have l4:=PM.le (listed (Fl n)) h3.wf;have n3:=Pp (read:=Fl n) h3.wf;generalize (listed (Fl n)).run s3=y at c3 d3 h4 l4 n3 ⊢;obtain ⟨x3,s4⟩:=y;simp only at c3 d3 h4 l4 n3 ⊢;have q3:=h0.suf.length_le;have q3':=h0.len)
   (repeat' (first|refine Run.ct rfl ?_|((first|refine Run.reg mixed ?_|refine Run.AJ ?_|(refine AH.upd c0 ?_)|(refine AH.upd c1 ?_)|(refine AH.upd c2 ?_)|refine AH.det (hpk) ?_|refine AH.det (f1) ?_|refine AH.det (f2) ?_|refine AH.det (f3) ?_|refine AH.det (f4) ?_|refine AH.det (f5) ?_|(refine AR rfl (fun h=>?_) (fun h=>?_)<;>try (cases h;done)))<;>try simp -implicitDefEqProofs only [hk1,hk2,go_sem])|(refine ⟨fun h=>?_,fun h=>?_⟩<;>first|(cases h;done)|try simp only [h])|fail))
   refine Run.SD mixed ?_;simp -implicitDefEqProofs only [go_sem]
   refine ⟨?_,?_⟩
   · refine IT.own rfl (by decide) (fun tk htk=>?_);simp -implicitDefEqProofs only [go_sem]
     refine AH.upd (d3 tk) ?_;simp -implicitDefEqProofs only [go_sem]
     (apply LS.tok (LS.uX htk s4);rfl;exact (Mz _ _ TE.iD);(simp only [AE,AD,AG];omega);decide;intro v2 τ2 ho);simp -implicitDefEqProofs only [ho.own.BT,ho.own.At,ho.own.cells,ho.own.cell,ho.own.plain,ho.own.dv,if_true,go_sem]
     (repeat' (first|refine Run.ct rfl ?_|((first|refine Run.reg mixed ?_|refine Run.AJ ?_|(refine Run.A9 BQ ho.le ?_)|(refine AR rfl (fun h=>?_) (fun h=>?_)<;>try (cases h;done)))<;>try simp -implicitDefEqProofs only [ho.own.BT,ho.own.At,ho.own.cells,ho.own.cell,ho.own.plain,ho.own.dv,if_true,go_sem])|(refine ⟨fun h=>?_,fun h=>?_⟩<;>first|(cases h;done)|try simp only [h])|fail))
   · refine AH.upd c3 ?_;simp -implicitDefEqProofs only [go_sem]
     refine IT.own rfl (by decide) (fun tk htk=>?_);simp -implicitDefEqProofs only [go_sem]
     (apply LS.tok (LS.uW htk);rfl;exact (Mz _ _ TE.iD);(simp only [AE,AD,AG];omega);decide;intro v2 τ2 ho);simp -implicitDefEqProofs only [ho.own.BT,ho.own.At,ho.own.cells,ho.own.cell,ho.own.plain,ho.own.dv,if_true,go_sem]
     (repeat' (first|refine Run.ct rfl ?_|((first|refine Run.reg mixed ?_|refine Run.AJ ?_|(refine Run.A9 BQ ho.le ?_)|(refine AR rfl (fun h=>?_) (fun h=>?_)<;>try (cases h;done)))<;>try simp -implicitDefEqProofs only [ho.own.BT,ho.own.At,ho.own.cells,ho.own.cell,ho.own.plain,ho.own.dv,if_true,go_sem])|(refine ⟨fun h=>?_,fun h=>?_⟩<;>first|(cases h;done)|try simp only [h])|fail))
  |false=>
  have f6:=DF h0 _ σ b0 t6
  cases t7:s0.hd.text==[102,110] with
  |true=>
   simp only [if_true,if_false,AU,run_bind,run_pure,teA,TE.A0,AF,AI]
   (have c0:=DG h0 [102,110] σ b0 t7;have h1:=h0.adv (t:=[102,110]) (by decide) t7;have l1:=BR h0.wf;generalize s0.adv=s1 at c0 h1 l1 ⊢;have b1:(σ.AM i (psA L s1)).blk i=some (psA L s1):=by rw [AO,if_pos rfl])
   (have c1:=(DH i L n [40] (by decide)) (σ.AM i (psA L s1)) s1 g0 h1 (by omega) b1;rw [A2] at c1;have h2:=h1.run (PM.exp [40] (by decide));have l2:=PM.le (PM.exp [40] (by decide)) h1.wf;generalize (PM.exp [40] (by decide)).run s1=y at c1 h2 l2 ⊢;obtain ⟨x1,s2⟩:=y;simp only at c1 h2 l2 ⊢;have b2:(σ.AM i (psA L s2)).blk i=some (psA L s2):=(by rw [AO,if_pos rfl]))
   have c2:=PY i L n Xk ih (σ.AM i (psA L s2)) s2 g0 h2 (by omega) b2
   rw [A2] at c2
   have h3:=h2.run (closed (Fl n))
   have l3:=PM.le (closed (Fl n)) h2.wf
   have n2:=Tp (read:=Fl n) h2.wf
   have q2:=h0.suf.length_le
   have q3:=h0.len
   generalize (closed (Fl n)).run s2=y at c2 h3 l3 n2 ⊢
   obtain ⟨x2,s3⟩:=y
   simp only at c2 h3 l3 n2 ⊢
   (repeat' (first|refine Run.ct rfl ?_|((first|refine Run.reg mixed ?_|refine Run.AJ ?_|(refine AH.upd c0 ?_)|(refine AH.upd c1 ?_)|(refine AH.mk rfl c2 ?_;intro v1 τ1 ho1)|refine AH.det (hpk) ?_|refine AH.det (f1) ?_|refine AH.det (f2) ?_|refine AH.det (f3) ?_|refine AH.det (f4) ?_|refine AH.det (f5) ?_|refine AH.det (f6) ?_|(refine AR rfl (fun h=>?_) (fun h=>?_)<;>try (cases h;done)))<;>try simp -implicitDefEqProofs only [hk1,hk2,go_sem])|(refine ⟨fun h=>?_,fun h=>?_⟩<;>first|(cases h;done)|try simp only [h])|fail))
   have hl1:=LS.of ho1
   have e3:=Tq h3 [45,62] (by decide) τ1 hl1.blk
   have hl2:=hl1.step ((PM.exp [45,62] (by decide)).run s3).2
   have h4:=h3.run (PM.exp [45,62] (by decide))
   have l4:=PM.le (PM.exp [45,62] (by decide)) h3.wf
   generalize (PM.exp [45,62] (by decide)).run s3=y at e3 hl2 h4 l4 ⊢
   obtain ⟨x3,s4⟩:=y
   simp only at e3 hl2 h4 l4 ⊢
   have c4:=ih (τ1.AM i (psA L s4)) s4 (hl1.gt g0) h4 (by omega) hl2.blk
   rw [A2] at c4
   have hl3:=hl1.step ((Fl n).run s4).2
   generalize (Fl n).run s4=y at c4 hl3 ⊢
   obtain ⟨x4,s5⟩:=y
   obtain ⟨k0,n0,a0⟩:=x4
   simp only [teA,TE.A0,AF,AI] at c4 hl3 ⊢
   (repeat' (first|refine Run.ct rfl ?_|((first|refine Run.reg mixed ?_|refine Run.AJ ?_|(refine AH.upd e3 ?_)|(refine AH.upd c4 ?_)|(refine AR rfl (fun h=>?_) (fun h=>?_)<;>try (cases h;done)))<;>try simp -implicitDefEqProofs only [ho1.BT,go_sem])|(refine ⟨fun h=>?_,fun h=>?_⟩<;>first|(cases h;done)|try simp only [h])|fail))
   refine hl3.tok rfl (by simp) (by simp;omega) (by decide) (fun v2 τ2 ho=>?_);simp -implicitDefEqProofs only [ho.own.BT,ho.own.At,ho.own.cells,ho.own.cell,ho.own.plain,ho.own.dv,if_true,go_sem]
   (repeat' (first|refine Run.ct rfl ?_|((first|refine Run.reg mixed ?_|refine Run.AJ ?_|(refine Run.A9 BQ ho.le ?_)|(refine AR rfl (fun h=>?_) (fun h=>?_)<;>try (cases h;done)))<;>try simp -implicitDefEqProofs only [ho.own.BT,ho.own.At,ho.own.cells,ho.own.cell,ho.own.plain,ho.own.dv,if_true,BU,AF,AI,TE.A0,go_sem])|(refine ⟨fun h=>?_,fun h=>?_⟩<;>first|(cases h;done)|try simp only [h])|fail))
  |false=>
  have f7:=DF h0 _ σ b0 t7
  simp only [if_false,AU,sF,teA,TE.A0,AF,AI]
  (repeat' (first|refine Run.ct rfl ?_|((first|refine Run.reg mixed ?_|refine Run.AJ ?_|refine Run.A9 BQ (AN.le_refl _) ?_|(refine AH.upd (Ub h0 σ b0) ?_)|refine AH.det (hpk) ?_|refine AH.det (f1) ?_|refine AH.det (f2) ?_|refine AH.det (f3) ?_|refine AH.det (f4) ?_|refine AH.det (f5) ?_|refine AH.det (f6) ?_|refine AH.det (f7) ?_|(refine AR rfl (fun h=>?_) (fun h=>?_)<;>try (cases h;done)))<;>try simp -implicitDefEqProofs only [hk1,hk2,go_sem])|(refine ⟨fun h=>?_,fun h=>?_⟩<;>first|(cases h;done)|try simp only [h])|fail))
end Go.Ab
namespace Go.Ab
open Go.Proofs
theorem cN (z:UInt8):Bf FH z=(LC z.toNat||JX z.toNat||Dt z.toNat||((z.toNat:Int)==95)):=rfl
theorem YK (s:Str) (i:Nat) (x:UInt8) (hx:s[i]?=some x) (hw:Bf FH x=true) (hl:s.length≤16384) (σ1:AN) (a5 a7:AV) (K:AV→AN→Prop) (k:List CI)
 (hk:Run GI K k (put 0 (.d (.str s)) (put 5 a5 (put 6 (.d (.int .i64 i)) (put 7 a7 (put 8 (.d (.int .i64 (((s.drop i).takeWhile (Bf FH)).length:Nat))) U))))) E σ1):
 Run GI K (.again TR::.blk 5::k) (put 0 (.d (.str s)) (put 5 a5 (put 6 (.d (.int .i64 i)) (put 7 a7 (put 8 (.d (.int .i64 1)) U))))) E σ1:=by
 refine Run.Bn ((fun (a0:AV) (a5:AV) (a6:AV) (a7:AV)=>fun (m:Nat)=>put 0 a0 (put 5 a5 (put 6 a6 (put 7 a7 (put 8 (.d (.int .i64 m)) U))))) _ _ _ _) (fun _=>E) (fun _=>σ1) (fun m=>1≤m∧i+m≤s.length∧∀q b,q < m→(s.drop i)[q]?=some b→Bf FH b=true) (fun m=>s.length - m) ?_ 1 ⟨by omega,?_,?_⟩
 · rintro m ⟨h1,hm,hall⟩ ih
   have hw0:=wrap_add (show i+m≤9000000000000000000 by omega)
   have hw1:=Ba (show m+1≤9000000000000000000 by omega)
   have hend:(∀b,(s.drop i)[m]?=some b→Bf FH b=false)→((s.drop i).takeWhile (Bf FH)).length=m:=fun h=>by
    rw [En hall (by simp;omega) h];simp;omega
   by_cases hlt:i+m < s.length
   · obtain ⟨z,hz⟩:=Bw hlt
     have hz2:(s.drop i)[m]?=some z:=by rw [BJ];exact hz
     have hstep:Bf FH z=true→∀q b,q < m+1→(s.drop i)[q]?=some b→Bf FH b=true:=fun hc q b hq hb=>by
      rcases Cl q m with h2|h2
      · exact hall q b h2 hb
      · have:q=m:=by omega
        subst this;rw [hz2] at hb;cases hb;exact hc
     (repeat' (first|refine Run.ct rfl ?_|((first|refine Run.reg mixed ?_|refine Run.AJ ?_|refine AH.det (I7 _ _) ?_|refine AH.det (I8 _ _) ?_|refine AH.det (HM _ _) ?_|(refine AR rfl (fun h=>?_) (fun h=>?_)<;>try (cases h;done)))<;>try simp -implicitDefEqProofs only [hw0,hw1,BX hlt,DD hz,go_sem])|(refine ⟨fun h=>?_,fun h=>?_⟩<;>first|(cases h;done)|try simp only [h])|fail))
     all_goals first
      |exact ih (m+1) ⟨by omega,by omega,hstep (by simp_all [cN])⟩ (by omega)
      |(rw [hend (fun b hb=>by rw [hz2] at hb;cases hb;simp_all [cN])] at hk;refine Run.Ok [0,5,6,7,8] ?_;simp -implicitDefEqProofs only [go_sem];exact hk)
   · (repeat' (first|refine Run.ct rfl ?_|((first|refine Run.reg mixed ?_|refine Run.AJ ?_)<;>try simp -implicitDefEqProofs only [hw0,F2 hlt,go_sem])|fail))
     rw [hend (fun b hb=>by rw [BJ,J1 (by omega)] at hb;cases hb)] at hk
     refine Run.Ok [0,5,6,7,8] ?_;simp -implicitDefEqProofs only [go_sem]
     exact hk
 · have:=(A8.1 hx).1;omega
 · intro q b hq hb
   have:q=0:=by omega
   subst this
   rw [BJ,E2,hx] at hb;cases hb;exact hw
theorem YL (s:Str) (i:Nat) (x:UInt8) (hx:s[i]?=some x) (hw:Bf Dt x=true) (hl:s.length≤16384) (σ1:AN) (a5 a7:AV) (K:AV→AN→Prop) (k:List CI)
 (hk:Run GI K k (put 0 (.d (.str s)) (put 5 a5 (put 6 (.d (.int .i64 i)) (put 7 a7 (put 8 (.d (.int .i64 (((s.drop i).takeWhile (Bf Dt)).length:Nat))) U))))) E σ1):
 Run GI K (.again TS::.blk 7::k) (put 0 (.d (.str s)) (put 5 a5 (put 6 (.d (.int .i64 i)) (put 7 a7 (put 8 (.d (.int .i64 1)) U))))) E σ1:=by
 refine Run.Bn ((fun (a0:AV) (a5:AV) (a6:AV) (a7:AV)=>fun (m:Nat)=>put 0 a0 (put 5 a5 (put 6 a6 (put 7 a7 (put 8 (.d (.int .i64 m)) U))))) _ _ _ _) (fun _=>E) (fun _=>σ1) (fun m=>1≤m∧i+m≤s.length∧∀q b,q < m→(s.drop i)[q]?=some b→Bf Dt b=true) (fun m=>s.length - m) ?_ 1 ⟨by omega,?_,?_⟩
 · rintro m ⟨h1,hm,hall⟩ ih
   have hw0:=wrap_add (show i+m≤9000000000000000000 by omega)
   have hw1:=Ba (show m+1≤9000000000000000000 by omega)
   have hend:(∀b,(s.drop i)[m]?=some b→Bf Dt b=false)→((s.drop i).takeWhile (Bf Dt)).length=m:=fun h=>by
    rw [En hall (by simp;omega) h];simp;omega
   by_cases hlt:i+m < s.length
   · obtain ⟨z,hz⟩:=Bw hlt
     have hz2:(s.drop i)[m]?=some z:=by rw [BJ];exact hz
     have hstep:Bf Dt z=true→∀q b,q < m+1→(s.drop i)[q]?=some b→Bf Dt b=true:=fun hc q b hq hb=>by
      rcases Cl q m with h2|h2
      · exact hall q b h2 hb
      · have:q=m:=by omega
        subst this;rw [hz2] at hb;cases hb;exact hc
     cases hd:Dt z.toNat with
     |true=>
      (repeat' (first|refine Run.ct rfl ?_|((first|refine Run.reg mixed ?_|refine Run.AJ ?_|refine AH.det (HM _ _) ?_)<;>try simp -implicitDefEqProofs only [hw0,hw1,BX hlt,DD hz,hd,go_sem])|fail))
      exact ih (m+1) ⟨by omega,by omega,hstep hd⟩ (by omega)
     |false=>
      (repeat' (first|refine Run.ct rfl ?_|((first|refine Run.reg mixed ?_|refine Run.AJ ?_|refine AH.det (HM _ _) ?_)<;>try simp -implicitDefEqProofs only [hw0,hw1,BX hlt,DD hz,hd,go_sem])|fail))
      rw [hend (fun b hb=>by rw [hz2] at hb;cases hb;exact hd)] at hk
      refine Run.Ok [0,5,6,7,8] ?_;simp -implicitDefEqProofs only [go_sem]
      exact hk
   · (repeat' (first|refine Run.ct rfl ?_|((first|refine Run.reg mixed ?_|refine Run.AJ ?_)<;>try simp -implicitDefEqProofs only [hw0,F2 hlt,go_sem])|fail))
     rw [hend (fun b hb=>by rw [BJ,J1 (by omega)] at hb;cases hb)] at hk
     refine Run.Ok [0,5,6,7,8] ?_;simp -implicitDefEqProofs only [go_sem]
     exact hk
 · have:=(A8.1 hx).1;omega
 · intro q b hq hb
   have:q=0:=by omega
   subst this
   rw [BJ,E2,hx] at hb;cases hb;exact hw
theorem e5 {c:UInt8→Bool} (s:Str) (i:Nat) (hi:i≤s.length):SP (.d (.str s)) (some (.d (.int .i64 (i:Int)))) (some (.d (.int .i64 ((i+((s.drop i).takeWhile c).length:Nat):Int))))=some (.d (.str ((s.drop i).takeWhile c))):=by
 have h:=Du c (s.drop i)
 rw [Ag] at h
 rw [sP (by omega) (by omega),KY,Nat.add_sub_cancel_left]
 congr 3
 exact (List.prefix_iff_eq_take.1 (List.takeWhile_prefix c)).symm
theorem sR (s:Str) (i n:Nat) (hi:i≤s.length) (hn:n≤(s.drop i).length):SP (.d (.str s)) (some (.d (.int .i64 (i:Int)))) (some (.d (.int .i64 ((i+n:Nat):Int))))=some (.d (.str ((s.drop i).take n))):=by
 rw [Ag] at hn
 rw [sP (by omega) (by omega),KY,Nat.add_sub_cancel_left]
theorem eY:∀(b:UInt8) (r:Str),EV (b::r)≤(b::r).length
 |b,[]=>by simp only [EV,PF];split<;>simp
 |b,c::r=>by
  simp only [EV]
  cases VA b c
  · simp only [PF,AU,if_false];split<;>simp
  · simp
set_option maxHeartbeats 4000000 in
theorem eK (s:Str) (σ:AN):AQ Tryz.prog 29 [.d (.str s)] σ (fun v σ'=>v=Hc (Am s)∧σ'=σ):=by
 refine gX (by simp) ?_
 rw [BE]
 by_cases hl:s.length>16384
 · (repeat' (first|refine Run.ct rfl ?_|((first|refine Run.reg mixed ?_|refine Run.AJ ?_|refine Run.A9 Gw (AN.le_refl _) ?_)<;>try simp -implicitDefEqProofs only [p9,decide_eq_true hl,go_sem])|fail))
   simp [Hc,Am,hl]
 · (repeat' (first|refine Run.ct rfl ?_|((first|refine Run.reg mixed ?_|refine Run.AJ ?_)<;>try simp -implicitDefEqProofs only [p9,decide_eq_false hl,go_sem])|fail))
   refine Run.Be ?_
   refine Run.Bn ((fun (a0:AV)=>fun (y:Nat×AV×AN)=>put 0 a0 (put 5 (y.2.1) (put 6 (.d (.int .i64 y.1)) U))) _) (fun _=>E) (fun y=>y.2.2) (fun y=>y.1≤s.length∧∃acc n,E3 σ 58 3 (acc.map Tok.enc) y.2.1 y.2.2∧acc.length≤y.1∧s.length - y.1 < n∧Am s=C4 n (s.drop y.1) y.1 acc) (fun y=>s.length - y.1) ?_ (0,.AX,σ) ⟨by simp,[],s.length+1,E3.nil _ _ _,by simp,by simp,by simp [Am,hl]⟩
   rintro ⟨i,v,σ1⟩ ⟨hi,acc,n,ho,hac,hn,hs⟩ ih
   simp only at hi ho hac hn hs
   obtain ⟨n,rfl⟩:∃m,n=m+1:=⟨n - 1,by omega⟩
   by_cases hlt:i < s.length
   · obtain ⟨x,hx⟩:=Bw hlt
     rw [Ec hx,C4] at hs
     have hw1:=Ba (show i+1≤9000000000000000000 by omega)
     have hsl:(x::s.drop (i+1)).length=s.length - i:=by simp;omega
     cases hb:Sl x.toNat with
     |true=>
      rw [hb,if_pos rfl] at hs
      (repeat' (first|refine Run.ct rfl ?_|((first|refine Run.reg mixed ?_|refine Run.AJ ?_|(refine AR rfl (fun h=>?_) (fun h=>?_)<;>try (cases h;done)))<;>try simp -implicitDefEqProofs only [BX hlt,DD hx,hw1,go_sem])|(refine ⟨fun h=>?_,fun h=>?_⟩<;>first|(cases h;done)|try simp only [h])|fail))
      all_goals first
       |exact ih (i+1,v,σ1) ⟨hlt,acc,n,ho,by simp only;omega,by simp only;omega,hs⟩ (by simp only;omega)
       |(exfalso;simp_all [Sl];done)
     |false=>
      rw [hb,if_neg (by simp)] at hs
      simp only [Sl,Cw] at hb
      obtain ⟨⟨⟨h9,h10⟩,h13⟩,h32⟩:=hb
      cases hc:(x==35) with
      |true=>
       rw [hc,if_pos rfl] at hs
       (repeat' (first|refine Run.ct rfl ?_|((first|refine Run.reg mixed ?_|refine Run.AJ ?_)<;>try simp -implicitDefEqProofs only [BX hlt,DD hx,h9,h10,h13,h32,QL,hc,go_sem])|fail))
       refine Run.Ok [0,5,6] ?_;simp -implicitDefEqProofs only [go_sem]
       refine Run.Be ?_
       refine Run.Bn ((fun (a0:AV) (a5:AV)=>fun (j:Nat)=>put 0 a0 (put 5 a5 (put 6 (.d (.int .i64 j)) U))) _ _) (fun _=>E) (fun _=>σ1) (fun j=>i≤j∧j≤s.length∧∀q b,q < j - i→(s.drop i)[q]?=some b→(!(b==10))=true) (fun j=>s.length - j) ?_ i ⟨A7 i,hi,by intro q b hq;omega⟩
       rintro j ⟨hij,hj,hall⟩ ih2
       have hw2:=Ba (show j+1≤9000000000000000000 by omega)
       have hend:(∀z,s[j]?=some z→(z==10)=true)→j≠i∧Am s=C4 n (s.drop j) j acc:=fun hz=>by
        have hji:j≠i:=fun e=>by
         subst e
         have h10:=hz x hx
         simp only [beq_iff_eq] at hc h10
         rw [hc] at h10;exact absurd h10 (by decide)
        have hk:cmt (x::s.drop (i+1))=j - i:=by
         rw [← Ec hx,cmt,En hall (by simp;omega) (fun b hb=>by
          rw [BJ,show i+(j - i)=j by omega] at hb
          simp [hz b hb])]
         simp;omega
        rw [hk,← Ec hx,CH,show i+(j - i)=j by omega] at hs
        exact ⟨hji,hs⟩
       by_cases hjl:j < s.length
       · obtain ⟨z,hz⟩:=Bw hjl
         have hz2:(s.drop i)[j - i]?=some z:=by rw [BJ,show i+(j - i)=j by omega];exact hz
         cases h10:(z==10) with
         |true=>
          obtain ⟨hji,hs⟩:=hend (fun z' hz'=>by rw [hz] at hz';cases hz';exact h10)
          (repeat' (first|refine Run.ct rfl ?_|((first|refine Run.reg mixed ?_|refine Run.AJ ?_)<;>try simp -implicitDefEqProofs only [BX hjl,DD hz,cH,bne,h10,go_sem])|fail))
          refine Run.Ok [0,5,6] ?_;simp -implicitDefEqProofs only [go_sem]
          exact ih (j,v,σ1) ⟨hj,acc,n,ho,by simp only;omega,by simp only;omega,hs⟩ (by simp only;omega)
         |false=>
          (repeat' (first|refine Run.ct rfl ?_|((first|refine Run.reg mixed ?_|refine Run.AJ ?_)<;>try simp -implicitDefEqProofs only [BX hjl,DD hz,cH,bne,h10,hw2,go_sem])|fail))
          refine ih2 (j+1) ⟨by omega,hjl,fun q b hq hb=>?_⟩ (by omega)
          rcases Cl q (j - i) with h2|h2
          · exact hall q b h2 hb
          · have:q=j - i:=by omega
            subst this
            rw [hz2] at hb;cases hb;simp [h10]
       · obtain ⟨hji,hs⟩:=hend (fun z hz=>by rw [J1 (by omega)] at hz;cases hz)
         (repeat' (first|refine Run.ct rfl ?_|((first|refine Run.reg mixed ?_|refine Run.AJ ?_)<;>try simp -implicitDefEqProofs only [F2 hjl,go_sem])|fail))
         refine Run.Ok [0,5,6] ?_;simp -implicitDefEqProofs only [go_sem]
         exact ih (j,v,σ1) ⟨hj,acc,n,ho,by simp only;omega,by simp only;omega,hs⟩ (by simp only;omega)
      |false=>
       rw [hc,if_neg (by simp)] at hs
       have hld:s.drop i=x::s.drop (i+1):=Ec hx
       have hss:SP (.d (.str s)) (some (.d (.int .i64 (i:Int)))) none=some (.d (.str (x::s.drop (i+1)))):=by rw [sQ hi,hld]
       -- behind a token
       have next:∀(k:Int) (t:Str) (v2:AV) (σ2:AN),CK (x::s.drop (i+1))= .ok (k,t)→E3 σ 58 3 (acc.map Tok.enc++[[.int .i64 k,.str t,.int .i64 i]]) v2 σ2→
        1≤t.length∧i+t.length≤s.length∧(i+t.length≤s.length∧∃acc n,E3 σ 58 3 (acc.map Tok.enc) v2 σ2∧acc.length≤i+t.length∧s.length - (i+t.length) < n∧Am s=C4 n (s.drop (i+t.length)) (i+t.length) acc):=fun k t v2 σ2 hsc ho2=>by
        have hsn:=NG hsc
        rw [hsl] at hsn
        rw [hsc] at hs
        refine ⟨hsn.1,by omega,by omega,acc++[⟨k,t,i⟩],n,by simpa [Tok.enc] using ho2,by simp only [AA,List.length_singleton];omega,by omega,?_⟩
        rw [hs];simp only;rw [← Ec hx,CH]
       have fail:∀e:Int,CK (x::s.drop (i+1))= .error e→Am s=([],i,e):=fun e he=>by rw [hs,he]
       have hwd:=e5 (c:=Bf FH) s i hi
       have hdd:=e5 (c:=Bf Dt) s i hi
       have hsg:=sR s i (EV (x::s.drop (i+1))) hi (by rw [hld];exact eY _ _)
       have hwl:=Du (Bf FH) (s.drop i)
       have hdl:=Du (Bf Dt) (s.drop i)
       have hsl2:=eY x (s.drop (i+1))
       have hL1:=YK s i x hx
       have hL2:=YL s i x hx
       rw [hld] at hwd hdd hsg hwl hdl hL1 hL2
       simp only [hsl] at hwl hdl hsl2
       have hw0:=fun n (h:n≤s.length - i)=>wrap_add (show i+n≤9000000000000000000 by omega)
       have hap:∀(r:List DV),r.length=3→∀q∈[r],q.length=3:=fun r hr q hq=>by rw [Ev] at hq;rw [hq];exact hr
       have gt24':=AA2
       have gt1':=gt1
       by_cases hlu:(LC x.toNat||JX x.toNat)=true
       · have hwx:Bf FH x=true:=by rw [cN,hlu];rfl
         have hsc:CK (x::s.drop (i+1))=if decide (((x::s.drop (i+1)).takeWhile (Bf FH)).length>24) then .error 9
                                                                                 else if JX x.toNat then .ok (2,(x::s.drop (i+1)).takeWhile (Bf FH))
                                                                                 else if Rs ((x::s.drop (i+1)).takeWhile (Bf FH)) then .ok (4,(x::s.drop (i+1)).takeWhile (Bf FH))
                                                                                 else .ok (1,(x::s.drop (i+1)).takeWhile (Bf FH)):=by rw [CK,if_pos hlu]
         have hL:=fun K k=>hL1 hwx (by omega) σ1 v (.d (.int .u8 x.toNat)) K k
         generalize ((x::s.drop (i+1)).takeWhile (Bf FH))=w at hwd hwl hsc hL
         have hwn:=hw0 w.length hwl
         cases hup:JX x.toNat<;>cases hlo:LC x.toNat<;>rw [hup] at hsc<;>first|(simp only [hup,hlo,Bool.or_self,AU] at hlu;done)|skip
         all_goals (repeat' (first|refine Run.ct rfl ?_|((first|refine Run.reg mixed ?_|refine Run.AJ ?_|(refine Run.Be ?_;refine Run.Ok [0,5,6,7,8] ?_;simp -implicitDefEqProofs only [go_sem];refine hL _ _ ?_)|(refine Io.own ho rfl (by simp) (by simp;omega) (by decide) (fun v2 σ2 ho2 hbk=>?_))|(refine Run.A9 Gw ho.le ?_)|refine AH.det (I7 _ _) ?_|refine AH.det (I8 _ _) ?_|refine AH.det (ZW _ _) ?_)<;>try simp -implicitDefEqProofs only [hup,hlo,BX hlt,DD hx,h9,h10,h13,h32,QL,hc,hwn,hwd,gt24',ho.BT,AU,go_sem])|(refine ⟨fun h=>?_,fun h=>?_⟩<;>first|(cases h;done)|try simp only [h])|fail))
         all_goals first
          |(obtain ⟨p1,p2,p3⟩:=next _ w _ _ (by rw [hsc];simp only [*,AU,reduceIte,BF,D5,BG,FJ,If,Ie]) ho2;exact ih (i+w.length,_,_) p3 (by simp only;omega))
          |(rw [fail 9 (by rw [hsc];simp only [*,AU,reduceIte,BF,D5,BG,FJ,If,Ie])];simp [Hc];done)
       · simp only [Q4,Cw] at hlu
         have hnlu:¬(LC x.toNat||JX x.toNat)=true:=by simp [hlu]
         cases hdg:Dt x.toNat with
         |true=>
          have hsc:CK (x::s.drop (i+1))=if x==48&&decide (((x::s.drop (i+1)).takeWhile (Bf Dt)).length>1) then .error 2
                                                                                         else if (FC ((x::s.drop (i+1)).takeWhile (Bf Dt)) 0).isSome then .ok (3,(x::s.drop (i+1)).takeWhile (Bf Dt))
                                                                                         else .error 9:=by rw [CK,if_neg hnlu,if_pos hdg]
          have hL:=fun K k=>hL2 hdg (by omega) σ1 v (.d (.int .u8 x.toNat)) K k
          generalize ((x::s.drop (i+1)).takeWhile (Bf Dt))=w at hdd hdl hsc hL
          have hwn:=hw0 w.length hdl
          have hval:=eL w σ1 (by omega)
          cases hv:FC w 0 with
          |some z=>
           rw [hv] at hval
           (repeat' (first|refine Run.ct rfl ?_|((first|refine Run.reg mixed ?_|refine Run.AJ ?_|(refine Run.Be ?_;refine Run.Ok [0,5,6,7,8] ?_;simp -implicitDefEqProofs only [go_sem];refine hL _ _ ?_)|(refine Io.own ho rfl (by simp) (by simp;omega) (by decide) (fun v2 σ2 ho2 hbk=>?_))|(refine Run.A9 Gw ho.le ?_)|refine AH.det (I7 _ _) ?_|refine AH.det (I8 _ _) ?_|refine AH.det (HM _ _) ?_|refine AH.det (hval) ?_|(refine AR rfl (fun h=>?_) (fun h=>?_)<;>try (cases h;done)))<;>try simp -implicitDefEqProofs only [BX hlt,DD hx,h9,h10,h13,h32,QL,hc,hwn,hdd,gt1',sZ,hlu.1,hlu.2,hdg,ho.BT,AU,go_sem])|(refine ⟨fun h=>?_,fun h=>?_⟩<;>first|(cases h;done)|try simp only [h])|fail))
           all_goals first
            |(obtain ⟨p1,p2,p3⟩:=next _ w _ _ (by rw [hsc];simp only [*,AU,reduceIte,BF,D5,BG,FJ,If,Ie]) ho2;exact ih (i+w.length,_,_) p3 (by simp only;omega))
            |(rw [fail 2 (by rw [hsc];simp only [*,AU,reduceIte,BF,D5,BG,FJ,If,Ie])];simp [Hc];done)
          |none=>
           rw [hv] at hval
           (repeat' (first|refine Run.ct rfl ?_|((first|refine Run.reg mixed ?_|refine Run.AJ ?_|(refine Run.Be ?_;refine Run.Ok [0,5,6,7,8] ?_;simp -implicitDefEqProofs only [go_sem];refine hL _ _ ?_)|(refine Io.own ho rfl (by simp) (by simp;omega) (by decide) (fun v2 σ2 ho2 hbk=>?_))|(refine Run.A9 Gw ho.le ?_)|refine AH.det (I7 _ _) ?_|refine AH.det (I8 _ _) ?_|refine AH.det (HM _ _) ?_|refine AH.det (hval) ?_|(refine AR rfl (fun h=>?_) (fun h=>?_)<;>try (cases h;done)))<;>try simp -implicitDefEqProofs only [BX hlt,DD hx,h9,h10,h13,h32,QL,hc,hwn,hdd,gt1',sZ,hlu.1,hlu.2,hdg,ho.BT,AU,go_sem])|(refine ⟨fun h=>?_,fun h=>?_⟩<;>first|(cases h;done)|try simp only [h])|fail))
           all_goals first
            |(rw [fail 2 (by rw [hsc];simp only [*,AU,reduceIte,BF,D5,BG,FJ,If,Ie])];simp [Hc];done)
            |(rw [fail 9 (by rw [hsc];simp only [*,AU,reduceIte,BF,D5,BG,FJ,If,Ie])];simp [Hc];done)
         |false=>
          have hsc:CK (x::s.drop (i+1))=if (x::s.drop (i+1)).take (EV (x::s.drop (i+1)))==[] then .error 2 else .ok (5,(x::s.drop (i+1)).take (EV (x::s.drop (i+1)))):=by rw [CK,if_neg hnlu,if_neg (by simp [hdg])]
          have hsk:=jA (x::s.drop (i+1)) σ1 (by simp)
          have hwn:=hw0 (EV (x::s.drop (i+1))) hsl2
          have htl:((x::s.drop (i+1)).take (EV (x::s.drop (i+1)))).length=EV (x::s.drop (i+1)):=by rw [B2,hsl];omega
          generalize EV (x::s.drop (i+1))=m at hsc hsk hwn hsg hsl2 htl
          generalize ((x::s.drop (i+1)).take m)=w at hsc hsg htl
          have hz:((m:Int)==0)=(w==[]):=by
           rw [Di];simp only [beq_iff_eq]
           rw [← XH,htl];omega
          cases hw:(w==[]) with
          |true=>
           (repeat' (first|refine Run.ct rfl ?_|((first|refine Run.reg mixed ?_|refine Run.AJ ?_|(refine Run.A9 Gw ho.le ?_)|refine AH.det (I7 _ _) ?_|refine AH.det (I8 _ _) ?_|refine AH.det (HM _ _) ?_|refine AH.det (hsk) ?_)<;>try simp -implicitDefEqProofs only [BX hlt,DD hx,h9,h10,h13,h32,QL,hc,hss,hwn,hsg,hlu.1,hlu.2,hdg,hz,hw,ho.BT,AU,go_sem])|fail))
           rw [fail 2 (by rw [hsc,if_pos hw])];simp [Hc]
          |false=>
           (repeat' (first|refine Run.ct rfl ?_|((first|refine Run.reg mixed ?_|refine Run.AJ ?_|(refine Io.own ho rfl (by simp) (by simp;omega) (by decide) (fun v2 σ2 ho2 hbk=>?_))|(refine Run.A9 Gw ho.le ?_)|refine AH.det (I7 _ _) ?_|refine AH.det (I8 _ _) ?_|refine AH.det (HM _ _) ?_|refine AH.det (hsk) ?_)<;>try simp -implicitDefEqProofs only [BX hlt,DD hx,h9,h10,h13,h32,QL,hc,hss,hwn,hsg,hlu.1,hlu.2,hdg,hz,hw,ho.BT,AU,go_sem])|fail))
           obtain ⟨p1,p2,p3⟩:=next 5 w _ _ (by rw [hsc,if_neg (by simp [hw])]) ‹_›
           rw [htl] at p1 p2 p3
           exact ih (i+m,_,_) p3 (by simp only;omega)
   · have hge:i=s.length:=by omega
     rw [hge,Q5,C4] at hs
     (repeat' (first|refine Run.ct rfl ?_|((first|refine Run.reg mixed ?_|refine Run.AJ ?_|(refine Io.own ho rfl (by simp) (by simp;omega) (by decide) (fun v2 σ2 ho2 hbk=>?_))|(refine Run.A9 Gw ho2.le ?_))<;>try simp -implicitDefEqProofs only [F2 hlt,go_sem])|fail))
     simp -implicitDefEqProofs only [ho2.At,ho2.plain,go_sem]
     rw [hs];simp [Hc,Tok.enc]
end Go.Ab
