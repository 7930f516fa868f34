/- The parser: types. Texts split into tokens, as the reference does it. Names and arities, in plain data. Lists searched with a function. Conditions: none. -/
import Derived.Test.YtifplkldbbcldaaGreatDoorXDt
set_option linter.unusedSimpArgs false
set_option linter.unusedVariables false
set_option maxRecDepth 4000
set_option maxHeartbeats 8000000
open List renaming map_cons→AE,map_nil→AH,mem_map→Ka,length_pos_iff→Aq,length_map→AI,length_cons→AD,length_nil→AF,map_append→B1,getElem?_eq_some_iff→A8,mem_append→BF,mem_singleton→Da,mem_of_getElem?→Ah,take_of_length_le→Ar,any_eq_not_all_not→Me
open Bool renaming false_eq_true→AY
namespace Go.Ab
open Go.Proofs
variable {α β:Type}
theorem run_bind (m:PM α) (k:α→PM β) (s:PSt):(m.bind k).run s=(k (m.run s).1).run (m.run s).2:=rfl
theorem run_pure (a:α) (s:PSt):(PM.pure a).run s=(a,s):=rfl
theorem nO (a:α) (s:PSt):(PM.fail a).run s=(a,s.fail):=rfl
theorem run_map (g:α→β) (m:PM α) (s:PSt):(m.map g).run s=(g (m.run s).1,(m.run s).2):=rfl
theorem aF (k:Int) (y n:PM α) (s:PSt):(PM.kind k y n).run s=if (s.hd.kind==k)=true then y.run s else n.run s:=rfl
theorem Gn (t:Str) (ht:t≠[]) (y n:PM α) (s:PSt):(PM.acc t ht y n).run s=if (s.hd.text==t)=true then y.run s.adv else n.run s:=rfl
theorem Cq (i:Nat) (L:List Tok) (n:Nat) (t:Str) (ht:t≠[]):PC 127 [.gp i 0,.d (.str t)] i L n (PM.exp t ht) (fun _=>.tup []):=fun σ s _ h1 _ h3=>S5 h1 t ht σ h3
theorem Qz (i:Nat) (L:List Tok) (n:Nat):PC 124 [.gp i 0,.d (.int .i64 2)] i L n Ev (fun x=>.d (.str x)):=ZF i L n 2 (by decide)
theorem eR (i:Nat) (L:List Tok) (n:Nat) {T:PM TE} (hT:PC 168 [.gp i 0] i L n T teA) (k:Int):PC 184 [.gp i 0,.d (.int .i64 k)] i L n (Qe k T) teA:=by
 intro σ s0 g0 h0 l0 b0
 refine N7 (by simp) ?_
 rw [BL]
 simp only [Qe,run_bind,run_pure,teA,TE.A3,AE,AH]
 (have c0:=(Cq i L n [40] (by decide)) σ s0 g0 h0 (by omega) b0;have h1:=h0.run (PM.exp [40] (by decide));have l1:=PM.le (PM.exp [40] (by decide)) h0.wf;generalize (PM.exp [40] (by decide)).run s0=y at c0 h1 l1 ⊢;obtain ⟨x0,s1⟩:=y;simp only at c0 h1 l1 ⊢;have b1:(σ.AL i (psA L s1)).blk i=some (psA L s1):=(by rw [AO,if_pos rfl]))
 (have c1:=hT (σ.AL i (psA L s1)) s1 g0 h1 (by omega) b1;rw [A1] at c1;have h2:=h1.run (T);have l2:=PM.le (T) h1.wf;generalize (T).run s1=y at c1 h2 l2 ⊢;obtain ⟨x1,s2⟩:=y;simp only at c1 h2 l2 ⊢;have b2:(σ.AL i (psA L s2)).blk i=some (psA L s2):=(by rw [AO,if_pos rfl]);obtain ⟨k0,n0,a0⟩:=x1;simp only [teA,TE.A3,AE,AH] at c1 ⊢)
 (have c2:=(Cq i L n [41] (by decide)) (σ.AL i (psA L s2)) s2 g0 h2 (by omega) b2;rw [A1] at c2;have h3:=h2.run (PM.exp [41] (by decide));have l3:=PM.le (PM.exp [41] (by decide)) h2.wf;generalize (PM.exp [41] (by decide)).run s2=y at c2 h3 l3 ⊢;obtain ⟨x2,s3⟩:=y;simp only at c2 h3 l3 ⊢;have b3:(σ.AL i (psA L s3)).blk i=some (psA L s3):=(by rw [AO,if_pos rfl]))
 (repeat' (first|refine Run.ct rfl ?_|((first|refine Run.reg mixed ?_|refine Run.AM ?_|refine Run.Ag Hq (AN.le_refl _) ?_|(refine AG.upd c0 ?_)|(refine AG.upd c1 ?_)|(refine AG.upd c2 ?_)|(refine AQ rfl (fun h=>?_) (fun h=>?_)<;>try (cases h;done)))<;>try simp -implicitDefEqProofs only [go_sem])|(refine ⟨fun h=>?_,fun h=>?_⟩<;>first|(cases h;done)|try simp only [h])|fail))
theorem TE.cJ (t:TE):t.enc.length=3:=by cases t;rw [TE.A3];rfl
theorem ML {α:Type} {enc:α→List DV} (z:Nat) (l:List α) (h:∀x,(enc x).length=z):∀r∈l.map enc,r.length=z:=fun r hr=>by
 obtain ⟨x,_,rfl⟩:=Ka.1 hr
 exact h x
theorem Vy:Am Tryz.prog 168=true:=by kernel_rfl
set_option maxHeartbeats 4000000 in
theorem n9 (i:Nat) (L:List Tok):∀n,PC 168 [.gp i 0] i L n (FZ n) teA
 |0=>fun σ s _ h1 h2 h3=>by have:=Aq.2 h1.wf.ne;omega
 |n+1=>by
  have ih:=n9 i L n
  intro σ s0 g0 h0 l0 b0
  refine Rc (by simp) ?_
  rw [BO]
  have hpk:=Oj h0 σ b0
  rw [FZ]
  simp only [aF,Gn]
  cases hk1:s0.hd.kind==1 with
  |true=>
   simp only [if_true,run_bind,run_pure,teA,TE.A3,AE,AH]
   (have c0:=(Og i L (n+1)) σ s0 g0 h0 (by omega) b0;have h1:=h0.run (FP);have l1:=PM.le (FP) h0.wf;generalize (FP).run s0=y at c0 h1 l1 ⊢;obtain ⟨x0,s1⟩:=y;simp only at c0 h1 l1 ⊢;have b1:(σ.AL i (psA L s1)).blk i=some (psA L s1):=(by rw [AO,if_pos rfl]))
   (repeat' (first|refine Run.ct rfl ?_|((first|refine Run.reg mixed ?_|refine Run.AM ?_|refine Run.Ag BK (AN.le_refl _) ?_|(refine AG.upd c0 ?_)|refine AG.det (hpk) ?_|(refine AQ rfl (fun h=>?_) (fun h=>?_)<;>try (cases h;done)))<;>try simp -implicitDefEqProofs only [hk1,go_sem])|(refine ⟨fun h=>?_,fun h=>?_⟩<;>first|(cases h;done)|try simp only [h])|fail))
  |false=>
  cases hk2:s0.hd.kind==2 with
  |true=>
   simp only [if_true,if_false,AY,run_bind,run_pure,teA,TE.A3,AE,AH]
   (have c0:=(Qz i L (n+1)) σ s0 g0 h0 (by omega) b0;have h1:=h0.run (Ev);have l1:=PM.le (Ev) h0.wf;generalize (Ev).run s0=y at c0 h1 l1 ⊢;obtain ⟨x0,s1⟩:=y;simp only at c0 h1 l1 ⊢;have b1:(σ.AL i (psA L s1)).blk i=some (psA L s1):=(by rw [AO,if_pos rfl]))
   (have c1:=(Ie i L n Vy ih).pc (σ.AL i (psA L s1)) s1 g0 h1 (by omega) b1;rw [A1] at c1;have h2:=h1.run (Hf (FZ n));have l2:=PM.le (Hf (FZ n)) h1.wf;generalize (Hf (FZ n)).run s1=y at c1 h2 l2 ⊢;obtain ⟨x1,s2⟩:=y;simp only at c1 h2 l2 ⊢;have b2:(σ.AL i (psA L s2)).blk i=some (psA L s2):=(by rw [AO,if_pos rfl]))
   (repeat' (first|refine Run.ct rfl ?_|((first|refine Run.reg mixed ?_|refine Run.AM ?_|refine Run.Ag BK (AN.le_refl _) ?_|(refine AG.upd c0 ?_)|(refine AG.upd c1 ?_)|refine AG.det (hpk) ?_|(refine AQ rfl (fun h=>?_) (fun h=>?_)<;>try (cases h;done)))<;>try simp -implicitDefEqProofs only [hk1,hk2,go_sem])|(refine ⟨fun h=>?_,fun h=>?_⟩<;>first|(cases h;done)|try simp only [h])|fail))
  |false=>
  simp only [if_false,AY]
  cases t1:s0.hd.text==[105,110,116] with
  |true=>
   simp only [if_true,run_pure,teA,TE.A3,AE,AH]
   (have c0:=Cn h0 [105,110,116] σ b0 t1;have h1:=h0.adv (t:=[105,110,116]) (by decide) t1;have l1:=BP h0.wf;generalize s0.adv=s1 at c0 h1 l1 ⊢;have b1:(σ.AL i (psA L s1)).blk i=some (psA L s1):=by rw [AO,if_pos rfl])
   (repeat' (first|refine Run.ct rfl ?_|((first|refine Run.reg mixed ?_|refine Run.AM ?_|refine Run.Ag BK (AN.le_refl _) ?_|(refine AG.upd c0 ?_)|refine AG.det (hpk) ?_|(refine AQ rfl (fun h=>?_) (fun h=>?_)<;>try (cases h;done)))<;>try simp -implicitDefEqProofs only [hk1,hk2,go_sem])|(refine ⟨fun h=>?_,fun h=>?_⟩<;>first|(cases h;done)|try simp only [h])|fail))
  |false=>
  have f1:=Cm h0 _ σ b0 t1
  cases t2:s0.hd.text==[98,111,111,108] with
  |true=>
   simp only [if_true,if_false,AY,run_pure,teA,TE.A3,AE,AH]
   (have c0:=Cn h0 [98,111,111,108] σ b0 t2;have h1:=h0.adv (t:=[98,111,111,108]) (by decide) t2;have l1:=BP h0.wf;generalize s0.adv=s1 at c0 h1 l1 ⊢;have b1:(σ.AL i (psA L s1)).blk i=some (psA L s1):=by rw [AO,if_pos rfl])
   (repeat' (first|refine Run.ct rfl ?_|((first|refine Run.reg mixed ?_|refine Run.AM ?_|refine Run.Ag BK (AN.le_refl _) ?_|(refine AG.upd c0 ?_)|refine AG.det (hpk) ?_|refine AG.det (f1) ?_|(refine AQ rfl (fun h=>?_) (fun h=>?_)<;>try (cases h;done)))<;>try simp -implicitDefEqProofs only [hk1,hk2,go_sem])|(refine ⟨fun h=>?_,fun h=>?_⟩<;>first|(cases h;done)|try simp only [h])|fail))
  |false=>
  have f2:=Cm h0 _ σ b0 t2
  cases t3:s0.hd.text==[117,110,105,116] with
  |true=>
   simp only [if_true,if_false,AY,run_pure,teA,TE.A3,AE,AH]
   (have c0:=Cn h0 [117,110,105,116] σ b0 t3;have h1:=h0.adv (t:=[117,110,105,116]) (by decide) t3;have l1:=BP h0.wf;generalize s0.adv=s1 at c0 h1 l1 ⊢;have b1:(σ.AL i (psA L s1)).blk i=some (psA L s1):=by rw [AO,if_pos rfl])
   (repeat' (first|refine Run.ct rfl ?_|((first|refine Run.reg mixed ?_|refine Run.AM ?_|refine Run.Ag BK (AN.le_refl _) ?_|(refine AG.upd c0 ?_)|refine AG.det (hpk) ?_|refine AG.det (f1) ?_|refine AG.det (f2) ?_|(refine AQ rfl (fun h=>?_) (fun h=>?_)<;>try (cases h;done)))<;>try simp -implicitDefEqProofs only [hk1,hk2,go_sem])|(refine ⟨fun h=>?_,fun h=>?_⟩<;>first|(cases h;done)|try simp only [h])|fail))
  |false=>
  have f3:=Cm h0 _ σ b0 t3
  cases t4:s0.hd.text==[97,114,114,97,121] with
  |true=>
   simp only [if_true,if_false,AY]
   (have c0:=Cn h0 [97,114,114,97,121] σ b0 t4;have h1:=h0.adv (t:=[97,114,114,97,121]) (by decide) t4;have l1:=BP h0.wf;generalize s0.adv=s1 at c0 h1 l1 ⊢;have b1:(σ.AL i (psA L s1)).blk i=some (psA L s1):=by rw [AO,if_pos rfl])
   (have c1:=(eR i L n ih 7) (σ.AL i (psA L s1)) s1 g0 h1 (by omega) b1;rw [A1] at c1;have h2:=h1.run (Qe 7 (FZ n));have l2:=PM.le (Qe 7 (FZ n)) h1.wf;generalize (Qe 7 (FZ n)).run s1=y at c1 h2 l2 ⊢;obtain ⟨x1,s2⟩:=y;simp only at c1 h2 l2 ⊢;have b2:(σ.AL i (psA L s2)).blk i=some (psA L s2):=(by rw [AO,if_pos rfl]);obtain ⟨k0,n0,a0⟩:=x1;simp only [teA,TE.A3,AE,AH] at c1 ⊢)
   (repeat' (first|refine Run.ct rfl ?_|((first|refine Run.reg mixed ?_|refine Run.AM ?_|refine Run.Ag BK (AN.le_refl _) ?_|(refine AG.upd c0 ?_)|(refine AG.upd c1 ?_)|refine AG.det (hpk) ?_|refine AG.det (f1) ?_|refine AG.det (f2) ?_|refine AG.det (f3) ?_|(refine AQ rfl (fun h=>?_) (fun h=>?_)<;>try (cases h;done)))<;>try simp -implicitDefEqProofs only [hk1,hk2,go_sem])|(refine ⟨fun h=>?_,fun h=>?_⟩<;>first|(cases h;done)|try simp only [h])|fail))
  |false=>
  have f4:=Cm h0 _ σ b0 t4
  cases t5:s0.hd.text==[114,101,102] with
  |true=>
   simp only [if_true,if_false,AY]
   (have c0:=Cn h0 [114,101,102] σ b0 t5;have h1:=h0.adv (t:=[114,101,102]) (by decide) t5;have l1:=BP h0.wf;generalize s0.adv=s1 at c0 h1 l1 ⊢;have b1:(σ.AL i (psA L s1)).blk i=some (psA L s1):=by rw [AO,if_pos rfl])
   (have c1:=(eR i L n ih 8) (σ.AL i (psA L s1)) s1 g0 h1 (by omega) b1;rw [A1] at c1;have h2:=h1.run (Qe 8 (FZ n));have l2:=PM.le (Qe 8 (FZ n)) h1.wf;generalize (Qe 8 (FZ n)).run s1=y at c1 h2 l2 ⊢;obtain ⟨x1,s2⟩:=y;simp only at c1 h2 l2 ⊢;have b2:(σ.AL i (psA L s2)).blk i=some (psA L s2):=(by rw [AO,if_pos rfl]);obtain ⟨k0,n0,a0⟩:=x1;simp only [teA,TE.A3,AE,AH] at c1 ⊢)
   (repeat' (first|refine Run.ct rfl ?_|((first|refine Run.reg mixed ?_|refine Run.AM ?_|refine Run.Ag BK (AN.le_refl _) ?_|(refine AG.upd c0 ?_)|(refine AG.upd c1 ?_)|refine AG.det (hpk) ?_|refine AG.det (f1) ?_|refine AG.det (f2) ?_|refine AG.det (f3) ?_|refine AG.det (f4) ?_|(refine AQ rfl (fun h=>?_) (fun h=>?_)<;>try (cases h;done)))<;>try simp -implicitDefEqProofs only [hk1,hk2,go_sem])|(refine ⟨fun h=>?_,fun h=>?_⟩<;>first|(cases h;done)|try simp only [h])|fail))
  |false=>
  have f5:=Cm h0 _ σ b0 t5
  cases t6:s0.hd.text==[40] with
  |true=>
   simp only [if_true,if_false,AY,run_bind,run_pure,teA,TE.A3,AE,AH]
   (have c0:=Cn h0 [40] σ b0 t6;have h1:=h0.adv (t:=[40]) (by decide) t6;have l1:=BP h0.wf;generalize s0.adv=s1 at c0 h1 l1 ⊢;have b1:(σ.AL i (psA L s1)).blk i=some (psA L s1):=by rw [AO,if_pos rfl])
   (have c1:=ih (σ.AL i (psA L s1)) s1 g0 h1 (by omega) b1;rw [A1] at c1;have h2:=h1.run (FZ n);have l2:=PM.le (FZ n) h1.wf;generalize (FZ n).run s1=y at c1 h2 l2 ⊢;obtain ⟨x1,s2⟩:=y;simp only at c1 h2 l2 ⊢;have b2:(σ.AL i (psA L s2)).blk i=some (psA L s2):=(by rw [AO,if_pos rfl]);obtain ⟨k0,n0,a0⟩:=x1;simp only [teA,TE.A3,AE,AH] at c1 ⊢)
   (have c2:=(Cq i L n [44] (by decide)) (σ.AL i (psA L s2)) s2 g0 h2 (by omega) b2;rw [A1] at c2;have h3:=h2.run (PM.exp [44] (by decide));have l3:=PM.le (PM.exp [44] (by decide)) h2.wf;generalize (PM.exp [44] (by decide)).run s2=y at c2 h3 l3 ⊢;obtain ⟨x2,s3⟩:=y;simp only at c2 h3 l3 ⊢;have b3:(σ.AL i (psA L s3)).blk i=some (psA L s3):=(by rw [AO,if_pos rfl]))
   (have d3:=fun tk:Nat=>(EX i L n Vy ih).pc ((σ.AL i (psA L s3)).DJ tk) s3 g0 h3 (by omega) (by rw [F8];exact b3);have c3:=(EX i L n Vy ih).pc (σ.AL i (psA L s3)) s3 g0 h3 (by omega) b3;rw [A1] at c3;have h4:=h3.run (listed (FZ n));have l4:=PM.le (listed (FZ n)) h3.wf;have n3:=Oe (read:=FZ n) h3.wf;generalize (listed (FZ n)).run s3=y at c3 d3 h4 l4 n3 ⊢;obtain ⟨x3,s4⟩:=y;simp only at c3 d3 h4 l4 n3 ⊢;have q3:=h0.suf.length_le;have q3':=h0.len)
   (repeat' (first|refine Run.ct rfl ?_|((first|refine Run.reg mixed ?_|refine Run.AM ?_|(refine AG.upd c0 ?_)|(refine AG.upd c1 ?_)|(refine AG.upd c2 ?_)|refine AG.det (hpk) ?_|refine AG.det (f1) ?_|refine AG.det (f2) ?_|refine AG.det (f3) ?_|refine AG.det (f4) ?_|refine AG.det (f5) ?_|(refine AQ rfl (fun h=>?_) (fun h=>?_)<;>try (cases h;done)))<;>try simp -implicitDefEqProofs only [hk1,hk2,go_sem])|(refine ⟨fun h=>?_,fun h=>?_⟩<;>first|(cases h;done)|try simp only [h])|fail))
   refine Run.Qi mixed ?_;simp -implicitDefEqProofs only [go_sem]
   refine ⟨?_,?_⟩
   · refine Hh.own rfl (by decide) (fun tk htk=>?_);simp -implicitDefEqProofs only [go_sem]
     refine AG.upd (d3 tk) ?_;simp -implicitDefEqProofs only [go_sem]
     (apply LS.tok (LS.pW htk s4);rfl;exact (ML _ _ TE.cJ);(simp only [AI,AD,AF];omega);decide;intro v2 τ2 ho);simp -implicitDefEqProofs only [ho.own.BQ,ho.own.At,ho.own.cells,ho.own.cell,ho.own.plain,ho.own.dv,if_true,go_sem]
     (repeat' (first|refine Run.ct rfl ?_|((first|refine Run.reg mixed ?_|refine Run.AM ?_|(refine Run.Ag BK ho.le ?_)|(refine AQ rfl (fun h=>?_) (fun h=>?_)<;>try (cases h;done)))<;>try simp -implicitDefEqProofs only [ho.own.BQ,ho.own.At,ho.own.cells,ho.own.cell,ho.own.plain,ho.own.dv,if_true,go_sem])|(refine ⟨fun h=>?_,fun h=>?_⟩<;>first|(cases h;done)|try simp only [h])|fail))
   · refine AG.upd c3 ?_;simp -implicitDefEqProofs only [go_sem]
     refine Hh.own rfl (by decide) (fun tk htk=>?_);simp -implicitDefEqProofs only [go_sem]
     (apply LS.tok (LS.pV htk);rfl;exact (ML _ _ TE.cJ);(simp only [AI,AD,AF];omega);decide;intro v2 τ2 ho);simp -implicitDefEqProofs only [ho.own.BQ,ho.own.At,ho.own.cells,ho.own.cell,ho.own.plain,ho.own.dv,if_true,go_sem]
     (repeat' (first|refine Run.ct rfl ?_|((first|refine Run.reg mixed ?_|refine Run.AM ?_|(refine Run.Ag BK ho.le ?_)|(refine AQ rfl (fun h=>?_) (fun h=>?_)<;>try (cases h;done)))<;>try simp -implicitDefEqProofs only [ho.own.BQ,ho.own.At,ho.own.cells,ho.own.cell,ho.own.plain,ho.own.dv,if_true,go_sem])|(refine ⟨fun h=>?_,fun h=>?_⟩<;>first|(cases h;done)|try simp only [h])|fail))
  |false=>
  have f6:=Cm h0 _ σ b0 t6
  cases t7:s0.hd.text==[102,110] with
  |true=>
   simp only [if_true,if_false,AY,run_bind,run_pure,teA,TE.A3,AE,AH]
   (have c0:=Cn h0 [102,110] σ b0 t7;have h1:=h0.adv (t:=[102,110]) (by decide) t7;have l1:=BP h0.wf;generalize s0.adv=s1 at c0 h1 l1 ⊢;have b1:(σ.AL i (psA L s1)).blk i=some (psA L s1):=by rw [AO,if_pos rfl])
   (have c1:=(Cq i L n [40] (by decide)) (σ.AL i (psA L s1)) s1 g0 h1 (by omega) b1;rw [A1] at c1;have h2:=h1.run (PM.exp [40] (by decide));have l2:=PM.le (PM.exp [40] (by decide)) h1.wf;generalize (PM.exp [40] (by decide)).run s1=y at c1 h2 l2 ⊢;obtain ⟨x1,s2⟩:=y;simp only at c1 h2 l2 ⊢;have b2:(σ.AL i (psA L s2)).blk i=some (psA L s2):=(by rw [AO,if_pos rfl]))
   have c2:=OS i L n Vy ih (σ.AL i (psA L s2)) s2 g0 h2 (by omega) b2
   rw [A1] at c2
   have h3:=h2.run (closed (FZ n))
   have l3:=PM.le (closed (FZ n)) h2.wf
   have n2:=S4 (read:=FZ n) h2.wf
   have q2:=h0.suf.length_le
   have q3:=h0.len
   generalize (closed (FZ n)).run s2=y at c2 h3 l3 n2 ⊢
   obtain ⟨x2,s3⟩:=y
   simp only at c2 h3 l3 n2 ⊢
   (repeat' (first|refine Run.ct rfl ?_|((first|refine Run.reg mixed ?_|refine Run.AM ?_|(refine AG.upd c0 ?_)|(refine AG.upd c1 ?_)|(refine AG.mk rfl c2 ?_;intro v1 τ1 ho1)|refine AG.det (hpk) ?_|refine AG.det (f1) ?_|refine AG.det (f2) ?_|refine AG.det (f3) ?_|refine AG.det (f4) ?_|refine AG.det (f5) ?_|refine AG.det (f6) ?_|(refine AQ rfl (fun h=>?_) (fun h=>?_)<;>try (cases h;done)))<;>try simp -implicitDefEqProofs only [hk1,hk2,go_sem])|(refine ⟨fun h=>?_,fun h=>?_⟩<;>first|(cases h;done)|try simp only [h])|fail))
   have hl1:=LS.of ho1
   have e3:=S5 h3 [45,62] (by decide) τ1 hl1.blk
   have hl2:=hl1.step ((PM.exp [45,62] (by decide)).run s3).2
   have h4:=h3.run (PM.exp [45,62] (by decide))
   have l4:=PM.le (PM.exp [45,62] (by decide)) h3.wf
   generalize (PM.exp [45,62] (by decide)).run s3=y at e3 hl2 h4 l4 ⊢
   obtain ⟨x3,s4⟩:=y
   simp only at e3 hl2 h4 l4 ⊢
   have c4:=ih (τ1.AL i (psA L s4)) s4 (hl1.gt g0) h4 (by omega) hl2.blk
   rw [A1] at c4
   have hl3:=hl1.step ((FZ n).run s4).2
   generalize (FZ n).run s4=y at c4 hl3 ⊢
   obtain ⟨x4,s5⟩:=y
   obtain ⟨k0,n0,a0⟩:=x4
   simp only [teA,TE.A3,AE,AH] at c4 hl3 ⊢
   (repeat' (first|refine Run.ct rfl ?_|((first|refine Run.reg mixed ?_|refine Run.AM ?_|(refine AG.upd e3 ?_)|(refine AG.upd c4 ?_)|(refine AQ rfl (fun h=>?_) (fun h=>?_)<;>try (cases h;done)))<;>try simp -implicitDefEqProofs only [ho1.BQ,go_sem])|(refine ⟨fun h=>?_,fun h=>?_⟩<;>first|(cases h;done)|try simp only [h])|fail))
   refine hl3.tok rfl (by simp) (by simp;omega) (by decide) (fun v2 τ2 ho=>?_);simp -implicitDefEqProofs only [ho.own.BQ,ho.own.At,ho.own.cells,ho.own.cell,ho.own.plain,ho.own.dv,if_true,go_sem]
   (repeat' (first|refine Run.ct rfl ?_|((first|refine Run.reg mixed ?_|refine Run.AM ?_|(refine Run.Ag BK ho.le ?_)|(refine AQ rfl (fun h=>?_) (fun h=>?_)<;>try (cases h;done)))<;>try simp -implicitDefEqProofs only [ho.own.BQ,ho.own.At,ho.own.cells,ho.own.cell,ho.own.plain,ho.own.dv,if_true,B1,AE,AH,TE.A3,go_sem])|(refine ⟨fun h=>?_,fun h=>?_⟩<;>first|(cases h;done)|try simp only [h])|fail))
  |false=>
  have f7:=Cm h0 _ σ b0 t7
  simp only [if_false,AY,nO,teA,TE.A3,AE,AH]
  (repeat' (first|refine Run.ct rfl ?_|((first|refine Run.reg mixed ?_|refine Run.AM ?_|refine Run.Ag BK (AN.le_refl _) ?_|(refine AG.upd (TP h0 σ b0) ?_)|refine AG.det (hpk) ?_|refine AG.det (f1) ?_|refine AG.det (f2) ?_|refine AG.det (f3) ?_|refine AG.det (f4) ?_|refine AG.det (f5) ?_|refine AG.det (f6) ?_|refine AG.det (f7) ?_|(refine AQ rfl (fun h=>?_) (fun h=>?_)<;>try (cases h;done)))<;>try simp -implicitDefEqProofs only [hk1,hk2,go_sem])|(refine ⟨fun h=>?_,fun h=>?_⟩<;>first|(cases h;done)|try simp only [h])|fail))
end Go.Ab
namespace Go.Ab
open Go.Proofs
end Go.Ab
namespace Go.Ab
def hX (o:Option Nat):Int:=match o with|some i=>i|none=>-1
def Ex.op:Ex→Int| .mk o _ _ _ _ _=>o
def Ex.num:Ex→Int| .mk _ _ u _ _ _=>u
def Ex.name:Ex→Str| .mk _ n _ _ _ _=>n
def Ex.names:Ex→List Str| .mk _ _ _ ns _ _=>ns
def Ex.kids:Ex→List Ex| .mk _ _ _ _ ks _=>ks
def Ex.alts:Ex→List Al| .mk _ _ _ _ _ al=>al
def Al.con:Al→Str| .mk c _ _=>c
def Al.vars:Al→List Str| .mk _ vs _=>vs
def Al.body:Al→Ex| .mk _ _ b=>b
end Go.Ab
namespace Go.Ab
open Go.Proofs
theorem OX {α:Type} {p:α→Bool} {l:List α} {i:Nat} {x:α} (h:∀y∈l.take i,p y=false) (hx:l[i]?=some x) (hp:p x=true):l.findIdx? p=some i:=by
 rw [List.findIdx?_eq_some_iff_getElem]
 obtain ⟨hl,he⟩:=A8.1 hx
 refine ⟨hl,by rw [he];exact hp,fun j hj=>?_⟩
 rw [h (l[j]'(by omega)) (List.mem_take_iff_getElem.2 ⟨j,by omega,rfl⟩)];simp
theorem OY {α:Type} {p:α→Bool} {l:List α} (h:∀y∈l,p y=false):l.findIdx? p=none:=by
 rw [List.findIdx?_eq_none_iff];exact h
theorem V4 {α:Type} {p:α→Bool} {l:List α} {i:Nat} {x:α} (h:∀y∈l.take i,p y=false) (hx:l[i]?=some x) (hp:p x=false):∀y∈l.take (i+1),p y=false:=by
 intro y hy
 rw [Jg hx] at hy
 rcases BF.1 hy with hy|hy
 · exact h y hy
 · simp only [Da] at hy;subst hy;exact hp
theorem VX (o:Option Nat):decide (0≤hX o)=o.isSome:=by
 cases o<;>simp [hX]
theorem Mg {α:Type} (p:α→Bool) (l:List α):(l.findIdx? p).isSome=l.any p:=by
 rw [List.findIdx?_isSome]
theorem RY {fid:FuncId} {caps:List AV} (hb:Am Tryz.prog fid=true) (hcp:caps.all AV.At=true) (p:Str→Bool) (l:List Str) (σ:AN) (hf:∀x∈l,AT Tryz.prog fid ((.d (.str x))::caps) σ (fun v σ'=>v= .d (.bool (p x))∧σ'=σ)):
 AT Tryz.prog 154 [.d (.sl (l.map FB)),.fn fid [] caps] σ (fun v σ'=>v= .d (.int .i64 (hX (l.findIdx? p)))∧σ'=σ):=by
 refine M1 (by simp) ?_
 rw [BL]
 refine Run.slot 0 (fun hb0=>?_)
 simp only [Ig,if_true,AV.FN,AI] at hb0
 (repeat' (first|refine Run.ct rfl ?_|((first|refine Run.reg mixed ?_|refine Run.AM ?_)<;>try simp -implicitDefEqProofs only [AI,go_sem])|fail))
 refine Run.Co ?_
 refine Run.Cp ((fun (a0:AV) (a1:AV) (a7:AV)=>fun (i:Nat)=>put 0 a0 (put 1 a1 (put 7 a7 (put 8 (.d (.int .i64 i)) U)))) _ _ _) (fun _=>E) (fun _=>σ) (fun i=>i≤l.length∧∀x∈l.take i,p x=false) (fun i=>l.length - i) ?_ 0 ⟨by simp,by simp⟩
 rintro i ⟨hi,hno⟩ ih
 by_cases hlt:i < l.length
 · obtain ⟨x,hx⟩:=DN hlt
   have he:=CW (enc:=FB) hx
   have hw1:IntKind.i64.wrap ((i:Int)+1)=((i+1:Nat):Int):=by rw [BJ (by omega) (by omega)];omega
   have hc:=hf x (Ah hx)
   simp only [FB] at he
   cases hp:p x with
   |true=>
    rw [hp] at hc
    (repeat' (first|refine Run.ct rfl ?_|((first|refine Run.reg mixed ?_|refine Run.AM ?_|refine Run.Ag Eh (AN.le_refl _) ?_|(refine ⟨fid,[],caps,rfl,hb,AG.det hc ?_ (by simp [hcp,J6,FO])⟩))<;>try simp -implicitDefEqProofs only [C9 hlt,he,hw1,go_sem])|fail))
    rw [OX hno hx hp];rfl
   |false=>
    rw [hp] at hc
    (repeat' (first|refine Run.ct rfl ?_|((first|refine Run.reg mixed ?_|refine Run.AM ?_|(refine ⟨fid,[],caps,rfl,hb,AG.det hc ?_ (by simp [hcp,J6,FO])⟩))<;>try simp -implicitDefEqProofs only [C9 hlt,he,hw1,go_sem])|fail))
    exact ih (i+1) ⟨by omega,V4 hno hx hp⟩ (by omega)
 · (repeat' (first|refine Run.ct rfl ?_|((first|refine Run.reg mixed ?_|refine Run.AM ?_|refine Run.Ag Eh (AN.le_refl _) ?_)<;>try simp -implicitDefEqProofs only [Ib hlt,go_sem])|fail))
   rw [Ar (by omega)] at hno
   rw [OY hno];rfl
theorem OM {fid:FuncId} {caps:List AV} (hb:Am Tryz.prog fid=true) (hcp:caps.all AV.At=true) (p:Str→Bool) (l:List Str) (σ:AN) (hf:∀x∈l,AT Tryz.prog fid ((.d (.str x))::caps) σ (fun v σ'=>v= .d (.bool (p x))∧σ'=σ)):
 AT Tryz.prog 108 [.d (.sl (l.map FB)),.fn fid [] caps] σ (fun v σ'=>v= .d (.bool (l.any p))∧σ'=σ):=by
 refine Ki (by simp) ?_
 rw [BL]
 (repeat' (first|refine Run.ct rfl ?_|((first|refine Run.reg mixed ?_|refine Run.AM ?_|refine Run.Ag Fo (AN.le_refl _) ?_|refine AG.det (RY hb hcp p l σ hf) ?_)<;>try simp -implicitDefEqProofs only [VX,Mg,go_sem])|fail))
theorem Uz {fid:FuncId} {caps:List AV} (hb:Am Tryz.prog fid=true) (hcp:caps.all AV.At=true) (x:Str) (b:Bool) (j:Nat) (σ:AN) (hj:σ.blk j=some [.fn fid [] caps]) (hf:AT Tryz.prog fid ((.d (.str x))::caps) σ (fun v σ'=>v= .d (.bool b)∧σ'=σ)):
 AT Tryz.prog 109 [(.d (.str x)),.gp j 0] σ (fun v σ'=>v= .d (.bool (!b))∧σ'=σ):=by
 refine PZ (by simp) ?_
 rw [BL]
 (repeat' (first|refine Run.ct rfl ?_|((first|refine Run.reg mixed ?_|refine Run.AM ?_|refine Run.Ag JM (AN.le_refl _) ?_|(refine ⟨fid,[],caps,rfl,hb,AG.det hf ?_ (by simp [hcp,J6,FO])⟩))<;>try simp -implicitDefEqProofs only [hj,go_sem])|fail))
theorem HG {fid:FuncId} {caps:List AV} (hb:Am Tryz.prog fid=true) (hcp:caps.all AV.At=true) (p:Str→Bool) (l:List Str) (σ:AN) (hf:∀x∈l,∀σ1,σ.le σ1→AT Tryz.prog fid ((.d (.str x))::caps) σ1 (fun v σ'=>v= .d (.bool (p x))∧σ'=σ1)):
 AT Tryz.prog 52 [.d (.sl (l.map FB)),.fn fid [] caps] σ (fun v σ'=>v= .d (.bool (l.all p))∧σ'=σ):=by
 refine R5 (by simp) ?_
 rw [BL]
 (repeat' (first|refine Run.ct rfl ?_|((first|refine Run.reg mixed ?_|refine Run.AM ?_)<;>try simp -implicitDefEqProofs only [go_sem])|fail))
 intro j hj
 have hle:=Ek (cs:=[.fn fid [] caps]) hj
 (repeat' (first|refine Run.ct rfl ?_|((first|refine Run.reg mixed ?_|refine Run.AM ?_|(refine Run.Ag LD (σ2:=σ) hle ?_)|refine AG.det (OM (by kernel_rfl) rfl (fun x=>!p x) l _ (fun x hx=>Uz hb hcp x (p x) j _ (by simp only [AO,if_true]) (hf x hx _ hle))) ?_)<;>try simp -implicitDefEqProofs only [go_sem])|fail))
 simp [Me]
theorem MY {fid:FuncId} {caps:List AV} (hb:Am Tryz.prog fid=true) (hcp:caps.all AV.At=true) (p:TE→Bool) (l:List TE) (σ:AN) (hf:∀x∈l,AT Tryz.prog fid ((teA x)::caps) σ (fun v σ'=>v= .d (.bool (p x))∧σ'=σ)):
 AT Tryz.prog 179 [.d (.sl (l.map TE.enc)),.fn fid [] caps] σ (fun v σ'=>v= .d (.int .i64 (hX (l.findIdx? p)))∧σ'=σ):=by
 refine Iq (by simp) ?_
 rw [BL]
 refine Run.slot 0 (fun hb0=>?_)
 simp only [Ig,if_true,AV.FN,AI] at hb0
 (repeat' (first|refine Run.ct rfl ?_|((first|refine Run.reg mixed ?_|refine Run.AM ?_)<;>try simp -implicitDefEqProofs only [AI,go_sem])|fail))
 refine Run.Co ?_
 refine Run.Cp ((fun (a0:AV) (a1:AV) (a7:AV)=>fun (i:Nat)=>put 0 a0 (put 1 a1 (put 7 a7 (put 8 (.d (.int .i64 i)) U)))) _ _ _) (fun _=>E) (fun _=>σ) (fun i=>i≤l.length∧∀x∈l.take i,p x=false) (fun i=>l.length - i) ?_ 0 ⟨by simp,by simp⟩
 rintro i ⟨hi,hno⟩ ih
 by_cases hlt:i < l.length
 · obtain ⟨x,hx⟩:=DN hlt
   have he:=CW (enc:=TE.enc) hx
   have hw1:IntKind.i64.wrap ((i:Int)+1)=((i+1:Nat):Int):=by rw [BJ (by omega) (by omega)];omega
   have hc:=hf x (Ah hx)
   obtain ⟨k,n,al⟩:=x
   simp only [TE.A3,teA,AE,AH] at he hc
   cases hp:p (.mk k n al) with
   |true=>
    rw [hp] at hc
    (repeat' (first|refine Run.ct rfl ?_|((first|refine Run.reg mixed ?_|refine Run.AM ?_|refine Run.Ag DK (AN.le_refl _) ?_|(refine ⟨fid,[],caps,rfl,hb,AG.det hc ?_ (by simp [hcp,J6,FO])⟩))<;>try simp -implicitDefEqProofs only [C9 hlt,he,hw1,go_sem])|fail))
    rw [OX hno hx hp];rfl
   |false=>
    rw [hp] at hc
    (repeat' (first|refine Run.ct rfl ?_|((first|refine Run.reg mixed ?_|refine Run.AM ?_|(refine ⟨fid,[],caps,rfl,hb,AG.det hc ?_ (by simp [hcp,J6,FO])⟩))<;>try simp -implicitDefEqProofs only [C9 hlt,he,hw1,go_sem])|fail))
    exact ih (i+1) ⟨by omega,V4 hno hx hp⟩ (by omega)
 · (repeat' (first|refine Run.ct rfl ?_|((first|refine Run.reg mixed ?_|refine Run.AM ?_|refine Run.Ag DK (AN.le_refl _) ?_)<;>try simp -implicitDefEqProofs only [Ib hlt,go_sem])|fail))
   rw [Ar (by omega)] at hno
   rw [OY hno];rfl
theorem K8 {fid:FuncId} {caps:List AV} (hb:Am Tryz.prog fid=true) (hcp:caps.all AV.At=true) (p:TE→Bool) (l:List TE) (σ:AN) (hf:∀x∈l,AT Tryz.prog fid ((teA x)::caps) σ (fun v σ'=>v= .d (.bool (p x))∧σ'=σ)):
 AT Tryz.prog 151 [.d (.sl (l.map TE.enc)),.fn fid [] caps] σ (fun v σ'=>v= .d (.bool (l.any p))∧σ'=σ):=by
 refine Hd (by simp) ?_
 rw [BL]
 (repeat' (first|refine Run.ct rfl ?_|((first|refine Run.reg mixed ?_|refine Run.AM ?_|refine Run.Ag E3 (AN.le_refl _) ?_|refine AG.det (MY hb hcp p l σ hf) ?_)<;>try simp -implicitDefEqProofs only [VX,Mg,go_sem])|fail))
theorem PW {fid:FuncId} {caps:List AV} (hb:Am Tryz.prog fid=true) (hcp:caps.all AV.At=true) (x:TE) (b:Bool) (j:Nat) (σ:AN) (hj:σ.blk j=some [.fn fid [] caps]) (hf:AT Tryz.prog fid ((teA x)::caps) σ (fun v σ'=>v= .d (.bool b)∧σ'=σ)):
 AT Tryz.prog 152 [(teA x),.gp j 0] σ (fun v σ'=>v= .d (.bool (!b))∧σ'=σ):=by
 refine LY (by simp) ?_
 rw [BL]
 obtain ⟨k,n,al⟩:=x
 simp only [TE.A3,teA,AE,AH] at hf ⊢
 (repeat' (first|refine Run.ct rfl ?_|((first|refine Run.reg mixed ?_|refine Run.AM ?_|refine Run.Ag GI (AN.le_refl _) ?_|(refine ⟨fid,[],caps,rfl,hb,AG.det hf ?_ (by simp [hcp,J6,FO])⟩))<;>try simp -implicitDefEqProofs only [hj,go_sem])|fail))
theorem Kw {fid:FuncId} {caps:List AV} (hb:Am Tryz.prog fid=true) (hcp:caps.all AV.At=true) (p:TE→Bool) (l:List TE) (σ:AN) (hf:∀x∈l,∀σ1,σ.le σ1→AT Tryz.prog fid ((teA x)::caps) σ1 (fun v σ'=>v= .d (.bool (p x))∧σ'=σ1)):
 AT Tryz.prog 104 [.d (.sl (l.map TE.enc)),.fn fid [] caps] σ (fun v σ'=>v= .d (.bool (l.all p))∧σ'=σ):=by
 refine M2 (by simp) ?_
 rw [BL]
 (repeat' (first|refine Run.ct rfl ?_|((first|refine Run.reg mixed ?_|refine Run.AM ?_)<;>try simp -implicitDefEqProofs only [go_sem])|fail))
 intro j hj
 have hle:=Ek (cs:=[.fn fid [] caps]) hj
 (repeat' (first|refine Run.ct rfl ?_|((first|refine Run.reg mixed ?_|refine Run.AM ?_|(refine Run.Ag Gv (σ2:=σ) hle ?_)|refine AG.det (K8 (by kernel_rfl) rfl (fun x=>!p x) l _ (fun x hx=>PW hb hcp x (p x) j _ (by simp only [AO,if_true]) (hf x hx _ hle))) ?_)<;>try simp -implicitDefEqProofs only [go_sem])|fail))
 simp [Me]
theorem Mq {fid:FuncId} {caps:List AV} (hb:Am Tryz.prog fid=true) (hcp:caps.all AV.At=true) (p:CE→Bool) (l:List CE) (σ:AN) (hf:∀x∈l,AT Tryz.prog fid ((ceA x)::caps) σ (fun v σ'=>v= .d (.bool (p x))∧σ'=σ)):
 AT Tryz.prog 178 [.d (.sl (l.map CE.enc)),.fn fid [] caps] σ (fun v σ'=>v= .d (.int .i64 (hX (l.findIdx? p)))∧σ'=σ):=by
 refine J2 (by simp) ?_
 rw [BL]
 refine Run.slot 0 (fun hb0=>?_)
 simp only [Ig,if_true,AV.FN,AI] at hb0
 (repeat' (first|refine Run.ct rfl ?_|((first|refine Run.reg mixed ?_|refine Run.AM ?_)<;>try simp -implicitDefEqProofs only [AI,go_sem])|fail))
 refine Run.Co ?_
 refine Run.Cp ((fun (a0:AV) (a1:AV) (a7:AV)=>fun (i:Nat)=>put 0 a0 (put 1 a1 (put 7 a7 (put 8 (.d (.int .i64 i)) U)))) _ _ _) (fun _=>E) (fun _=>σ) (fun i=>i≤l.length∧∀x∈l.take i,p x=false) (fun i=>l.length - i) ?_ 0 ⟨by simp,by simp⟩
 rintro i ⟨hi,hno⟩ ih
 by_cases hlt:i < l.length
 · obtain ⟨x,hx⟩:=DN hlt
   have he:=CW (enc:=CE.enc) hx
   have hw1:IntKind.i64.wrap ((i:Int)+1)=((i+1:Nat):Int):=by rw [BJ (by omega) (by omega)];omega
   have hc:=hf x (Ah hx)
   obtain ⟨nm,ar⟩:=x
   simp only [CE.enc,ceA,AE,AH] at he hc
   cases hp:p (⟨nm,ar⟩) with
   |true=>
    rw [hp] at hc
    (repeat' (first|refine Run.ct rfl ?_|((first|refine Run.reg mixed ?_|refine Run.AM ?_|refine Run.Ag D4 (AN.le_refl _) ?_|(refine ⟨fid,[],caps,rfl,hb,AG.det hc ?_ (by simp [hcp,J6,FO])⟩))<;>try simp -implicitDefEqProofs only [C9 hlt,he,hw1,go_sem])|fail))
    rw [OX hno hx hp];rfl
   |false=>
    rw [hp] at hc
    (repeat' (first|refine Run.ct rfl ?_|((first|refine Run.reg mixed ?_|refine Run.AM ?_|(refine ⟨fid,[],caps,rfl,hb,AG.det hc ?_ (by simp [hcp,J6,FO])⟩))<;>try simp -implicitDefEqProofs only [C9 hlt,he,hw1,go_sem])|fail))
    exact ih (i+1) ⟨by omega,V4 hno hx hp⟩ (by omega)
 · (repeat' (first|refine Run.ct rfl ?_|((first|refine Run.reg mixed ?_|refine Run.AM ?_|refine Run.Ag D4 (AN.le_refl _) ?_)<;>try simp -implicitDefEqProofs only [Ib hlt,go_sem])|fail))
   rw [Ar (by omega)] at hno
   rw [OY hno];rfl
theorem LO {fid:FuncId} {caps:List AV} (hb:Am Tryz.prog fid=true) (hcp:caps.all AV.At=true) (p:CE→Bool) (l:List CE) (σ:AN) (hf:∀x∈l,AT Tryz.prog fid ((ceA x)::caps) σ (fun v σ'=>v= .d (.bool (p x))∧σ'=σ)):
 AT Tryz.prog 149 [.d (.sl (l.map CE.enc)),.fn fid [] caps] σ (fun v σ'=>v= .d (.bool (l.any p))∧σ'=σ):=by
 refine IC (by simp) ?_
 rw [BL]
 (repeat' (first|refine Run.ct rfl ?_|((first|refine Run.reg mixed ?_|refine Run.AM ?_|refine Run.Ag Ef (AN.le_refl _) ?_|refine AG.det (Mq hb hcp p l σ hf) ?_)<;>try simp -implicitDefEqProofs only [VX,Mg,go_sem])|fail))
theorem QD {fid:FuncId} {caps:List AV} (hb:Am Tryz.prog fid=true) (hcp:caps.all AV.At=true) (x:CE) (b:Bool) (j:Nat) (σ:AN) (hj:σ.blk j=some [.fn fid [] caps]) (hf:AT Tryz.prog fid ((ceA x)::caps) σ (fun v σ'=>v= .d (.bool b)∧σ'=σ)):
 AT Tryz.prog 150 [(ceA x),.gp j 0] σ (fun v σ'=>v= .d (.bool (!b))∧σ'=σ):=by
 refine MB (by simp) ?_
 rw [BL]
 obtain ⟨nm,ar⟩:=x
 simp only [CE.enc,ceA,AE,AH] at hf ⊢
 (repeat' (first|refine Run.ct rfl ?_|((first|refine Run.reg mixed ?_|refine Run.AM ?_|refine Run.Ag G1 (AN.le_refl _) ?_|(refine ⟨fid,[],caps,rfl,hb,AG.det hf ?_ (by simp [hcp,J6,FO])⟩))<;>try simp -implicitDefEqProofs only [hj,go_sem])|fail))
theorem SW {fid:FuncId} {caps:List AV} (hb:Am Tryz.prog fid=true) (hcp:caps.all AV.At=true) (p:CE→Bool) (l:List CE) (σ:AN) (hf:∀x∈l,∀σ1,σ.le σ1→AT Tryz.prog fid ((ceA x)::caps) σ1 (fun v σ'=>v= .d (.bool (p x))∧σ'=σ1)):
 AT Tryz.prog 102 [.d (.sl (l.map CE.enc)),.fn fid [] caps] σ (fun v σ'=>v= .d (.bool (l.all p))∧σ'=σ):=by
 refine Mw (by simp) ?_
 rw [BL]
 (repeat' (first|refine Run.ct rfl ?_|((first|refine Run.reg mixed ?_|refine Run.AM ?_)<;>try simp -implicitDefEqProofs only [go_sem])|fail))
 intro j hj
 have hle:=Ek (cs:=[.fn fid [] caps]) hj
 (repeat' (first|refine Run.ct rfl ?_|((first|refine Run.reg mixed ?_|refine Run.AM ?_|(refine Run.Ag HR (σ2:=σ) hle ?_)|refine AG.det (LO (by kernel_rfl) rfl (fun x=>!p x) l _ (fun x hx=>QD hb hcp x (p x) j _ (by simp only [AO,if_true]) (hf x hx _ hle))) ?_)<;>try simp -implicitDefEqProofs only [go_sem])|fail))
 simp [Me]
theorem QA {fid:FuncId} {caps:List AV} (hb:Am Tryz.prog fid=true) (hcp:caps.all AV.At=true) (p:Al→Bool) (l:List Al) (σ:AN) (hf:∀x∈l,AT Tryz.prog fid ((alA x)::caps) σ (fun v σ'=>v= .d (.bool (p x))∧σ'=σ)):
 AT Tryz.prog 195 [.d (.sl (l.map Al.enc)),.fn fid [] caps] σ (fun v σ'=>v= .d (.int .i64 (hX (l.findIdx? p)))∧σ'=σ):=by
 refine MA (by simp) ?_
 rw [BL]
 refine Run.slot 0 (fun hb0=>?_)
 simp only [Ig,if_true,AV.FN,AI] at hb0
 (repeat' (first|refine Run.ct rfl ?_|((first|refine Run.reg mixed ?_|refine Run.AM ?_)<;>try simp -implicitDefEqProofs only [AI,go_sem])|fail))
 refine Run.Co ?_
 refine Run.Cp ((fun (a0:AV) (a1:AV) (a7:AV)=>fun (i:Nat)=>put 0 a0 (put 1 a1 (put 7 a7 (put 8 (.d (.int .i64 i)) U)))) _ _ _) (fun _=>E) (fun _=>σ) (fun i=>i≤l.length∧∀x∈l.take i,p x=false) (fun i=>l.length - i) ?_ 0 ⟨by simp,by simp⟩
 rintro i ⟨hi,hno⟩ ih
 by_cases hlt:i < l.length
 · obtain ⟨x,hx⟩:=DN hlt
   have he:=CW (enc:=Al.enc) hx
   have hw1:IntKind.i64.wrap ((i:Int)+1)=((i+1:Nat):Int):=by rw [BJ (by omega) (by omega)];omega
   have hc:=hf x (Ah hx)
   obtain ⟨c,vs,o,n,u,ns,ks,al⟩:=x
   simp only [Al.A3,alA,AE,AH] at he hc
   cases hp:p (.mk c vs (.mk o n u ns ks al)) with
   |true=>
    rw [hp] at hc
    (repeat' (first|refine Run.ct rfl ?_|((first|refine Run.reg mixed ?_|refine Run.AM ?_|refine Run.Ag E4 (AN.le_refl _) ?_|(refine ⟨fid,[],caps,rfl,hb,AG.det hc ?_ (by simp [hcp,J6,FO])⟩))<;>try simp -implicitDefEqProofs only [C9 hlt,he,hw1,go_sem])|fail))
    rw [OX hno hx hp];rfl
   |false=>
    rw [hp] at hc
    (repeat' (first|refine Run.ct rfl ?_|((first|refine Run.reg mixed ?_|refine Run.AM ?_|(refine ⟨fid,[],caps,rfl,hb,AG.det hc ?_ (by simp [hcp,J6,FO])⟩))<;>try simp -implicitDefEqProofs only [C9 hlt,he,hw1,go_sem])|fail))
    exact ih (i+1) ⟨by omega,V4 hno hx hp⟩ (by omega)
 · (repeat' (first|refine Run.ct rfl ?_|((first|refine Run.reg mixed ?_|refine Run.AM ?_|refine Run.Ag E4 (AN.le_refl _) ?_)<;>try simp -implicitDefEqProofs only [Ib hlt,go_sem])|fail))
   rw [Ar (by omega)] at hno
   rw [OY hno];rfl
theorem NP {fid:FuncId} {caps:List AV} (hb:Am Tryz.prog fid=true) (hcp:caps.all AV.At=true) (p:Al→Bool) (l:List Al) (σ:AN) (hf:∀x∈l,AT Tryz.prog fid ((alA x)::caps) σ (fun v σ'=>v= .d (.bool (p x))∧σ'=σ)):
 AT Tryz.prog 180 [.d (.sl (l.map Al.enc)),.fn fid [] caps] σ (fun v σ'=>v= .d (.bool (l.any p))∧σ'=σ):=by
 refine KR (by simp) ?_
 rw [BL]
 (repeat' (first|refine Run.ct rfl ?_|((first|refine Run.reg mixed ?_|refine Run.AM ?_|refine Run.Ag F5 (AN.le_refl _) ?_|refine AG.det (QA hb hcp p l σ hf) ?_)<;>try simp -implicitDefEqProofs only [VX,Mg,go_sem])|fail))
theorem Tp {fid:FuncId} {caps:List AV} (hb:Am Tryz.prog fid=true) (hcp:caps.all AV.At=true) (x:Al) (b:Bool) (j:Nat) (σ:AN) (hj:σ.blk j=some [.fn fid [] caps]) (hf:AT Tryz.prog fid ((alA x)::caps) σ (fun v σ'=>v= .d (.bool b)∧σ'=σ)):
 AT Tryz.prog 181 [(alA x),.gp j 0] σ (fun v σ'=>v= .d (.bool (!b))∧σ'=σ):=by
 refine O1 (by simp) ?_
 rw [BL]
 obtain ⟨c,vs,o,n,u,ns,ks,al⟩:=x
 simp only [Al.A3,alA,AE,AH] at hf ⊢
 (repeat' (first|refine Run.ct rfl ?_|((first|refine Run.reg mixed ?_|refine Run.AM ?_|refine Run.Ag I1 (AN.le_refl _) ?_|(refine ⟨fid,[],caps,rfl,hb,AG.det hf ?_ (by simp [hcp,J6,FO])⟩))<;>try simp -implicitDefEqProofs only [hj,go_sem])|fail))
theorem Vj {fid:FuncId} {caps:List AV} (hb:Am Tryz.prog fid=true) (hcp:caps.all AV.At=true) (p:Al→Bool) (l:List Al) (σ:AN) (hf:∀x∈l,∀σ1,σ.le σ1→AT Tryz.prog fid ((alA x)::caps) σ1 (fun v σ'=>v= .d (.bool (p x))∧σ'=σ1)):
 AT Tryz.prog 158 [.d (.sl (l.map Al.enc)),.fn fid [] caps] σ (fun v σ'=>v= .d (.bool (l.all p))∧σ'=σ):=by
 refine QR (by simp) ?_
 rw [BL]
 (repeat' (first|refine Run.ct rfl ?_|((first|refine Run.reg mixed ?_|refine Run.AM ?_)<;>try simp -implicitDefEqProofs only [go_sem])|fail))
 intro j hj
 have hle:=Ek (cs:=[.fn fid [] caps]) hj
 (repeat' (first|refine Run.ct rfl ?_|((first|refine Run.reg mixed ?_|refine Run.AM ?_|(refine Run.Ag KH (σ2:=σ) hle ?_)|refine AG.det (NP (by kernel_rfl) rfl (fun x=>!p x) l _ (fun x hx=>Tp hb hcp x (p x) j _ (by simp only [AO,if_true]) (hf x hx _ hle))) ?_)<;>try simp -implicitDefEqProofs only [go_sem])|fail))
 simp [Me]
end Go.Ab
