/- The parser: types. Texts split into tokens, as the reference does it. Names and arities, in plain data. Lists searched with a function. Conditions: none. -/
import Derived.Test.YtifplkldbbcldaaGreatDoorXDt
set_option linter.unusedSimpArgs false
set_option linter.unusedVariables false
set_option maxRecDepth 4000
set_option maxHeartbeats 8000000
open List renaming map_cons→AE,map_nil→AH,mem_map→K3,length_pos_iff→Ap,length_map→AI,length_cons→AD,length_nil→AF,map_append→Bc,getElem?_eq_some_iff→A8,mem_append→BP,mem_singleton→Fa,mem_of_getElem?→Ai,take_of_length_le→Aq,any_eq_not_all_not→M8
open Bool renaming false_eq_true→AY
namespace Go.Ab
open Go.Proofs
variable {α β:Type}
theorem run_bind (m:PM α) (k:α→PM β) (s:PSt):(m.bind k).run s=(k (m.run s).1).run (m.run s).2:=rfl
theorem run_pure (a:α) (s:PSt):(PM.pure a).run s=(a,s):=rfl
theorem mT (a:α) (s:PSt):(PM.fail a).run s=(a,s.fail):=rfl
theorem run_map (g:α→β) (m:PM α) (s:PSt):(m.map g).run s=(g (m.run s).1,(m.run s).2):=rfl
theorem Zs (k:Int) (y n:PM α) (s:PSt):(PM.kind k y n).run s=if (s.hd.kind==k)=true then y.run s else n.run s:=rfl
theorem Gg (t:Str) (ht:t≠[]) (y n:PM α) (s:PSt):(PM.acc t ht y n).run s=if (s.hd.text==t)=true then y.run s.adv else n.run s:=rfl
theorem Ck (i:Nat) (L:List Tok) (n:Nat) (t:Str) (ht:t≠[]):PC 127 [.gp i 0,.d (.str t)] i L n (PM.exp t ht) (fun _=>.tup []):=fun σ s _ h1 _ h3=>SZ h1 t ht σ h3
theorem Qu (i:Nat) (L:List Tok) (n:Nat):PC 124 [.gp i 0,.d (.int .i64 2)] i L n Eo (fun x=>.d (.str x)):=Ys i L n 2 (by decide)
theorem dX (i:Nat) (L:List Tok) (n:Nat) {T:PM TE} (hT:PC 168 [.gp i 0] i L n T teA) (k:Int):PC 184 [.gp i 0,.d (.int .i64 k)] i L n (Q5 k T) teA:=by
 intro σ s0 g0 h0 l0 b0
 refine N0 (by simp) ?_
 rw [BH]
 simp only [Q5,run_bind,run_pure,teA,TE.A3,AE,AH]
 (have c0:=(Ck i L n [40] (by decide)) σ s0 g0 h0 (by omega) b0;have h1:=h0.run (PM.exp [40] (by decide));have l1:=PM.le (PM.exp [40] (by decide)) h0.wf;generalize (PM.exp [40] (by decide)).run s0=y at c0 h1 l1 ⊢;obtain ⟨x0,s1⟩:=y;simp only at c0 h1 l1 ⊢;have b1:(σ.AL i (psA L s1)).blk i=some (psA L s1):=(by rw [AO,if_pos rfl]))
 (have c1:=hT (σ.AL i (psA L s1)) s1 g0 h1 (by omega) b1;rw [A0] at c1;have h2:=h1.run (T);have l2:=PM.le (T) h1.wf;generalize (T).run s1=y at c1 h2 l2 ⊢;obtain ⟨x1,s2⟩:=y;simp only at c1 h2 l2 ⊢;have b2:(σ.AL i (psA L s2)).blk i=some (psA L s2):=(by rw [AO,if_pos rfl]);obtain ⟨k0,n0,a0⟩:=x1;simp only [teA,TE.A3,AE,AH] at c1 ⊢)
 (have c2:=(Ck i L n [41] (by decide)) (σ.AL i (psA L s2)) s2 g0 h2 (by omega) b2;rw [A0] at c2;have h3:=h2.run (PM.exp [41] (by decide));have l3:=PM.le (PM.exp [41] (by decide)) h2.wf;generalize (PM.exp [41] (by decide)).run s2=y at c2 h3 l3 ⊢;obtain ⟨x2,s3⟩:=y;simp only at c2 h3 l3 ⊢;have b3:(σ.AL i (psA L s3)).blk i=some (psA L s3):=(by rw [AO,if_pos rfl]))
 (repeat' (first|refine Run.ct rfl ?_|((first|refine Run.reg mixed ?_|refine Run.AM ?_|refine Run.Af Hk (AN.le_refl _) ?_|(refine AG.upd c0 ?_)|(refine AG.upd c1 ?_)|(refine AG.upd c2 ?_)|(refine AQ rfl (fun h=>?_) (fun h=>?_)<;>try (cases h;done)))<;>try simp -implicitDefEqProofs only [go_sem])|(refine ⟨fun h=>?_,fun h=>?_⟩<;>first|(cases h;done)|try simp only [h])|fail))
theorem TE.bT (t:TE):t.enc.length=3:=by cases t;rw [TE.A3];rfl
theorem MH {α:Type} {enc:α→List DV} (z:Nat) (l:List α) (h:∀x,(enc x).length=z):∀r∈l.map enc,r.length=z:=fun r hr=>by
 obtain ⟨x,_,rfl⟩:=K3.1 hr
 exact h x
theorem Vm:Am Tryz.prog 168=true:=by kernel_rfl
set_option maxHeartbeats 4000000 in
theorem nG (i:Nat) (L:List Tok):∀n,PC 168 [.gp i 0] i L n (FT n) teA
 |0=>fun σ s _ h1 h2 h3=>by have:=Ap.2 h1.wf.ne;omega
 |n+1=>by
  have ih:=nG i L n
  intro σ s0 g0 h0 l0 b0
  refine R6 (by simp) ?_
  rw [BM]
  have hpk:=Oc h0 σ b0
  rw [FT]
  simp only [Zs,Gg]
  cases hk1:s0.hd.kind==1 with
  |true=>
   simp only [if_true,run_bind,run_pure,teA,TE.A3,AE,AH]
   (have c0:=(O9 i L (n+1)) σ s0 g0 h0 (by omega) b0;have h1:=h0.run (FK);have l1:=PM.le (FK) h0.wf;generalize (FK).run s0=y at c0 h1 l1 ⊢;obtain ⟨x0,s1⟩:=y;simp only at c0 h1 l1 ⊢;have b1:(σ.AL i (psA L s1)).blk i=some (psA L s1):=(by rw [AO,if_pos rfl]))
   (repeat' (first|refine Run.ct rfl ?_|((first|refine Run.reg mixed ?_|refine Run.AM ?_|refine Run.Af BG (AN.le_refl _) ?_|(refine AG.upd c0 ?_)|refine AG.det (hpk) ?_|(refine AQ rfl (fun h=>?_) (fun h=>?_)<;>try (cases h;done)))<;>try simp -implicitDefEqProofs only [hk1,go_sem])|(refine ⟨fun h=>?_,fun h=>?_⟩<;>first|(cases h;done)|try simp only [h])|fail))
  |false=>
  cases hk2:s0.hd.kind==2 with
  |true=>
   simp only [if_true,if_false,AY,run_bind,run_pure,teA,TE.A3,AE,AH]
   (have c0:=(Qu i L (n+1)) σ s0 g0 h0 (by omega) b0;have h1:=h0.run (Eo);have l1:=PM.le (Eo) h0.wf;generalize (Eo).run s0=y at c0 h1 l1 ⊢;obtain ⟨x0,s1⟩:=y;simp only at c0 h1 l1 ⊢;have b1:(σ.AL i (psA L s1)).blk i=some (psA L s1):=(by rw [AO,if_pos rfl]))
   (have c1:=(I7 i L n Vm ih).pc (σ.AL i (psA L s1)) s1 g0 h1 (by omega) b1;rw [A0] at c1;have h2:=h1.run (H9 (FT n));have l2:=PM.le (H9 (FT n)) h1.wf;generalize (H9 (FT n)).run s1=y at c1 h2 l2 ⊢;obtain ⟨x1,s2⟩:=y;simp only at c1 h2 l2 ⊢;have b2:(σ.AL i (psA L s2)).blk i=some (psA L s2):=(by rw [AO,if_pos rfl]))
   (repeat' (first|refine Run.ct rfl ?_|((first|refine Run.reg mixed ?_|refine Run.AM ?_|refine Run.Af BG (AN.le_refl _) ?_|(refine AG.upd c0 ?_)|(refine AG.upd c1 ?_)|refine AG.det (hpk) ?_|(refine AQ rfl (fun h=>?_) (fun h=>?_)<;>try (cases h;done)))<;>try simp -implicitDefEqProofs only [hk1,hk2,go_sem])|(refine ⟨fun h=>?_,fun h=>?_⟩<;>first|(cases h;done)|try simp only [h])|fail))
  |false=>
  simp only [if_false,AY]
  cases t1:s0.hd.text==[105,110,116] with
  |true=>
   simp only [if_true,run_pure,teA,TE.A3,AE,AH]
   (have c0:=Cj h0 [105,110,116] σ b0 t1;have h1:=h0.adv (t:=[105,110,116]) (by decide) t1;have l1:=BN h0.wf;generalize s0.adv=s1 at c0 h1 l1 ⊢;have b1:(σ.AL i (psA L s1)).blk i=some (psA L s1):=by rw [AO,if_pos rfl])
   (repeat' (first|refine Run.ct rfl ?_|((first|refine Run.reg mixed ?_|refine Run.AM ?_|refine Run.Af BG (AN.le_refl _) ?_|(refine AG.upd c0 ?_)|refine AG.det (hpk) ?_|(refine AQ rfl (fun h=>?_) (fun h=>?_)<;>try (cases h;done)))<;>try simp -implicitDefEqProofs only [hk1,hk2,go_sem])|(refine ⟨fun h=>?_,fun h=>?_⟩<;>first|(cases h;done)|try simp only [h])|fail))
  |false=>
  have f1:=Ci h0 _ σ b0 t1
  cases t2:s0.hd.text==[98,111,111,108] with
  |true=>
   simp only [if_true,if_false,AY,run_pure,teA,TE.A3,AE,AH]
   (have c0:=Cj h0 [98,111,111,108] σ b0 t2;have h1:=h0.adv (t:=[98,111,111,108]) (by decide) t2;have l1:=BN h0.wf;generalize s0.adv=s1 at c0 h1 l1 ⊢;have b1:(σ.AL i (psA L s1)).blk i=some (psA L s1):=by rw [AO,if_pos rfl])
   (repeat' (first|refine Run.ct rfl ?_|((first|refine Run.reg mixed ?_|refine Run.AM ?_|refine Run.Af BG (AN.le_refl _) ?_|(refine AG.upd c0 ?_)|refine AG.det (hpk) ?_|refine AG.det (f1) ?_|(refine AQ rfl (fun h=>?_) (fun h=>?_)<;>try (cases h;done)))<;>try simp -implicitDefEqProofs only [hk1,hk2,go_sem])|(refine ⟨fun h=>?_,fun h=>?_⟩<;>first|(cases h;done)|try simp only [h])|fail))
  |false=>
  have f2:=Ci h0 _ σ b0 t2
  cases t3:s0.hd.text==[117,110,105,116] with
  |true=>
   simp only [if_true,if_false,AY,run_pure,teA,TE.A3,AE,AH]
   (have c0:=Cj h0 [117,110,105,116] σ b0 t3;have h1:=h0.adv (t:=[117,110,105,116]) (by decide) t3;have l1:=BN h0.wf;generalize s0.adv=s1 at c0 h1 l1 ⊢;have b1:(σ.AL i (psA L s1)).blk i=some (psA L s1):=by rw [AO,if_pos rfl])
   (repeat' (first|refine Run.ct rfl ?_|((first|refine Run.reg mixed ?_|refine Run.AM ?_|refine Run.Af BG (AN.le_refl _) ?_|(refine AG.upd c0 ?_)|refine AG.det (hpk) ?_|refine AG.det (f1) ?_|refine AG.det (f2) ?_|(refine AQ rfl (fun h=>?_) (fun h=>?_)<;>try (cases h;done)))<;>try simp -implicitDefEqProofs only [hk1,hk2,go_sem])|(refine ⟨fun h=>?_,fun h=>?_⟩<;>first|(cases h;done)|try simp only [h])|fail))
  |false=>
  have f3:=Ci h0 _ σ b0 t3
  cases t4:s0.hd.text==[97,114,114,97,121] with
  |true=>
   simp only [if_true,if_false,AY]
   (have c0:=Cj h0 [97,114,114,97,121] σ b0 t4;have h1:=h0.adv (t:=[97,114,114,97,121]) (by decide) t4;have l1:=BN h0.wf;generalize s0.adv=s1 at c0 h1 l1 ⊢;have b1:(σ.AL i (psA L s1)).blk i=some (psA L s1):=by rw [AO,if_pos rfl])
   (have c1:=(dX i L n ih 7) (σ.AL i (psA L s1)) s1 g0 h1 (by omega) b1;rw [A0] at c1;have h2:=h1.run (Q5 7 (FT n));have l2:=PM.le (Q5 7 (FT n)) h1.wf;generalize (Q5 7 (FT n)).run s1=y at c1 h2 l2 ⊢;obtain ⟨x1,s2⟩:=y;simp only at c1 h2 l2 ⊢;have b2:(σ.AL i (psA L s2)).blk i=some (psA L s2):=(by rw [AO,if_pos rfl]);obtain ⟨k0,n0,a0⟩:=x1;simp only [teA,TE.A3,AE,AH] at c1 ⊢)
   (repeat' (first|refine Run.ct rfl ?_|((first|refine Run.reg mixed ?_|refine Run.AM ?_|refine Run.Af BG (AN.le_refl _) ?_|(refine AG.upd c0 ?_)|(refine AG.upd c1 ?_)|refine AG.det (hpk) ?_|refine AG.det (f1) ?_|refine AG.det (f2) ?_|refine AG.det (f3) ?_|(refine AQ rfl (fun h=>?_) (fun h=>?_)<;>try (cases h;done)))<;>try simp -implicitDefEqProofs only [hk1,hk2,go_sem])|(refine ⟨fun h=>?_,fun h=>?_⟩<;>first|(cases h;done)|try simp only [h])|fail))
  |false=>
  have f4:=Ci h0 _ σ b0 t4
  cases t5:s0.hd.text==[114,101,102] with
  |true=>
   simp only [if_true,if_false,AY]
   (have c0:=Cj h0 [114,101,102] σ b0 t5;have h1:=h0.adv (t:=[114,101,102]) (by decide) t5;have l1:=BN h0.wf;generalize s0.adv=s1 at c0 h1 l1 ⊢;have b1:(σ.AL i (psA L s1)).blk i=some (psA L s1):=by rw [AO,if_pos rfl])
   (have c1:=(dX i L n ih 8) (σ.AL i (psA L s1)) s1 g0 h1 (by omega) b1;rw [A0] at c1;have h2:=h1.run (Q5 8 (FT n));have l2:=PM.le (Q5 8 (FT n)) h1.wf;generalize (Q5 8 (FT n)).run s1=y at c1 h2 l2 ⊢;obtain ⟨x1,s2⟩:=y;simp only at c1 h2 l2 ⊢;have b2:(σ.AL i (psA L s2)).blk i=some (psA L s2):=(by rw [AO,if_pos rfl]);obtain ⟨k0,n0,a0⟩:=x1;simp only [teA,TE.A3,AE,AH] at c1 ⊢)
   (repeat' (first|refine Run.ct rfl ?_|((first|refine Run.reg mixed ?_|refine Run.AM ?_|refine Run.Af BG (AN.le_refl _) ?_|(refine AG.upd c0 ?_)|(refine AG.upd c1 ?_)|refine AG.det (hpk) ?_|refine AG.det (f1) ?_|refine AG.det (f2) ?_|refine AG.det (f3) ?_|refine AG.det (f4) ?_|(refine AQ rfl (fun h=>?_) (fun h=>?_)<;>try (cases h;done)))<;>try simp -implicitDefEqProofs only [hk1,hk2,go_sem])|(refine ⟨fun h=>?_,fun h=>?_⟩<;>first|(cases h;done)|try simp only [h])|fail))
  |false=>
  have f5:=Ci h0 _ σ b0 t5
  cases t6:s0.hd.text==[40] with
  |true=>
   simp only [if_true,if_false,AY,run_bind,run_pure,teA,TE.A3,AE,AH]
   (have c0:=Cj h0 [40] σ b0 t6;have h1:=h0.adv (t:=[40]) (by decide) t6;have l1:=BN h0.wf;generalize s0.adv=s1 at c0 h1 l1 ⊢;have b1:(σ.AL i (psA L s1)).blk i=some (psA L s1):=by rw [AO,if_pos rfl])
   (have c1:=ih (σ.AL i (psA L s1)) s1 g0 h1 (by omega) b1;rw [A0] at c1;have h2:=h1.run (FT n);have l2:=PM.le (FT n) h1.wf;generalize (FT n).run s1=y at c1 h2 l2 ⊢;obtain ⟨x1,s2⟩:=y;simp only at c1 h2 l2 ⊢;have b2:(σ.AL i (psA L s2)).blk i=some (psA L s2):=(by rw [AO,if_pos rfl]);obtain ⟨k0,n0,a0⟩:=x1;simp only [teA,TE.A3,AE,AH] at c1 ⊢)
   (have c2:=(Ck i L n [44] (by decide)) (σ.AL i (psA L s2)) s2 g0 h2 (by omega) b2;rw [A0] at c2;have h3:=h2.run (PM.exp [44] (by decide));have l3:=PM.le (PM.exp [44] (by decide)) h2.wf;generalize (PM.exp [44] (by decide)).run s2=y at c2 h3 l3 ⊢;obtain ⟨x2,s3⟩:=y;simp only at c2 h3 l3 ⊢;have b3:(σ.AL i (psA L s3)).blk i=some (psA L s3):=(by rw [AO,if_pos rfl]))
   (have d3:=fun tk:Nat=>(EM i L n Vm ih).pc ((σ.AL i (psA L s3)).DF tk) s3 g0 h3 (by omega) (by rw [F2];exact b3);have c3:=(EM i L n Vm ih).pc (σ.AL i (psA L s3)) s3 g0 h3 (by omega) b3;rw [A0] at c3;have h4:=h3.run (listed (FT n));have l4:=PM.le (listed (FT n)) h3.wf;have n3:=O7 (read:=FT n) h3.wf;generalize (listed (FT n)).run s3=y at c3 d3 h4 l4 n3 ⊢;obtain ⟨x3,s4⟩:=y;simp only at c3 d3 h4 l4 n3 ⊢;have q3:=h0.suf.length_le;have q3':=h0.len)
   (repeat' (first|refine Run.ct rfl ?_|((first|refine Run.reg mixed ?_|refine Run.AM ?_|(refine AG.upd c0 ?_)|(refine AG.upd c1 ?_)|(refine AG.upd c2 ?_)|refine AG.det (hpk) ?_|refine AG.det (f1) ?_|refine AG.det (f2) ?_|refine AG.det (f3) ?_|refine AG.det (f4) ?_|refine AG.det (f5) ?_|(refine AQ rfl (fun h=>?_) (fun h=>?_)<;>try (cases h;done)))<;>try simp -implicitDefEqProofs only [hk1,hk2,go_sem])|(refine ⟨fun h=>?_,fun h=>?_⟩<;>first|(cases h;done)|try simp only [h])|fail))
   refine Run.Q9 mixed ?_;simp -implicitDefEqProofs only [go_sem]
   refine ⟨?_,?_⟩
   · refine Hb.own rfl (by decide) (fun tk htk=>?_);simp -implicitDefEqProofs only [go_sem]
     refine AG.upd (d3 tk) ?_;simp -implicitDefEqProofs only [go_sem]
     (apply LS.tok (LS.pA htk s4);rfl;exact (MH _ _ TE.bT);(simp only [AI,AD,AF];omega);decide;intro v2 τ2 ho);simp -implicitDefEqProofs only [ho.own.BO,ho.own.As,ho.own.cells,ho.own.cell,ho.own.plain,ho.own.dv,if_true,go_sem]
     (repeat' (first|refine Run.ct rfl ?_|((first|refine Run.reg mixed ?_|refine Run.AM ?_|(refine Run.Af BG ho.le ?_)|(refine AQ rfl (fun h=>?_) (fun h=>?_)<;>try (cases h;done)))<;>try simp -implicitDefEqProofs only [ho.own.BO,ho.own.As,ho.own.cells,ho.own.cell,ho.own.plain,ho.own.dv,if_true,go_sem])|(refine ⟨fun h=>?_,fun h=>?_⟩<;>first|(cases h;done)|try simp only [h])|fail))
   · refine AG.upd c3 ?_;simp -implicitDefEqProofs only [go_sem]
     refine Hb.own rfl (by decide) (fun tk htk=>?_);simp -implicitDefEqProofs only [go_sem]
     (apply LS.tok (LS.o9 htk);rfl;exact (MH _ _ TE.bT);(simp only [AI,AD,AF];omega);decide;intro v2 τ2 ho);simp -implicitDefEqProofs only [ho.own.BO,ho.own.As,ho.own.cells,ho.own.cell,ho.own.plain,ho.own.dv,if_true,go_sem]
     (repeat' (first|refine Run.ct rfl ?_|((first|refine Run.reg mixed ?_|refine Run.AM ?_|(refine Run.Af BG ho.le ?_)|(refine AQ rfl (fun h=>?_) (fun h=>?_)<;>try (cases h;done)))<;>try simp -implicitDefEqProofs only [ho.own.BO,ho.own.As,ho.own.cells,ho.own.cell,ho.own.plain,ho.own.dv,if_true,go_sem])|(refine ⟨fun h=>?_,fun h=>?_⟩<;>first|(cases h;done)|try simp only [h])|fail))
  |false=>
  have f6:=Ci h0 _ σ b0 t6
  cases t7:s0.hd.text==[102,110] with
  |true=>
   simp only [if_true,if_false,AY,run_bind,run_pure,teA,TE.A3,AE,AH]
   (have c0:=Cj h0 [102,110] σ b0 t7;have h1:=h0.adv (t:=[102,110]) (by decide) t7;have l1:=BN h0.wf;generalize s0.adv=s1 at c0 h1 l1 ⊢;have b1:(σ.AL i (psA L s1)).blk i=some (psA L s1):=by rw [AO,if_pos rfl])
   (have c1:=(Ck i L n [40] (by decide)) (σ.AL i (psA L s1)) s1 g0 h1 (by omega) b1;rw [A0] at c1;have h2:=h1.run (PM.exp [40] (by decide));have l2:=PM.le (PM.exp [40] (by decide)) h1.wf;generalize (PM.exp [40] (by decide)).run s1=y at c1 h2 l2 ⊢;obtain ⟨x1,s2⟩:=y;simp only at c1 h2 l2 ⊢;have b2:(σ.AL i (psA L s2)).blk i=some (psA L s2):=(by rw [AO,if_pos rfl]))
   have c2:=OL i L n Vm ih (σ.AL i (psA L s2)) s2 g0 h2 (by omega) b2
   rw [A0] at c2
   have h3:=h2.run (closed (FT n))
   have l3:=PM.le (closed (FT n)) h2.wf
   have n2:=SY (read:=FT n) h2.wf
   have q2:=h0.suf.length_le
   have q3:=h0.len
   generalize (closed (FT n)).run s2=y at c2 h3 l3 n2 ⊢
   obtain ⟨x2,s3⟩:=y
   simp only at c2 h3 l3 n2 ⊢
   (repeat' (first|refine Run.ct rfl ?_|((first|refine Run.reg mixed ?_|refine Run.AM ?_|(refine AG.upd c0 ?_)|(refine AG.upd c1 ?_)|(refine AG.mk rfl c2 ?_;intro v1 τ1 ho1)|refine AG.det (hpk) ?_|refine AG.det (f1) ?_|refine AG.det (f2) ?_|refine AG.det (f3) ?_|refine AG.det (f4) ?_|refine AG.det (f5) ?_|refine AG.det (f6) ?_|(refine AQ rfl (fun h=>?_) (fun h=>?_)<;>try (cases h;done)))<;>try simp -implicitDefEqProofs only [hk1,hk2,go_sem])|(refine ⟨fun h=>?_,fun h=>?_⟩<;>first|(cases h;done)|try simp only [h])|fail))
   have hl1:=LS.of ho1
   have e3:=SZ h3 [45,62] (by decide) τ1 hl1.blk
   have hl2:=hl1.step ((PM.exp [45,62] (by decide)).run s3).2
   have h4:=h3.run (PM.exp [45,62] (by decide))
   have l4:=PM.le (PM.exp [45,62] (by decide)) h3.wf
   generalize (PM.exp [45,62] (by decide)).run s3=y at e3 hl2 h4 l4 ⊢
   obtain ⟨x3,s4⟩:=y
   simp only at e3 hl2 h4 l4 ⊢
   have c4:=ih (τ1.AL i (psA L s4)) s4 (hl1.gt g0) h4 (by omega) hl2.blk
   rw [A0] at c4
   have hl3:=hl1.step ((FT n).run s4).2
   generalize (FT n).run s4=y at c4 hl3 ⊢
   obtain ⟨x4,s5⟩:=y
   obtain ⟨k0,n0,a0⟩:=x4
   simp only [teA,TE.A3,AE,AH] at c4 hl3 ⊢
   (repeat' (first|refine Run.ct rfl ?_|((first|refine Run.reg mixed ?_|refine Run.AM ?_|(refine AG.upd e3 ?_)|(refine AG.upd c4 ?_)|(refine AQ rfl (fun h=>?_) (fun h=>?_)<;>try (cases h;done)))<;>try simp -implicitDefEqProofs only [ho1.BO,go_sem])|(refine ⟨fun h=>?_,fun h=>?_⟩<;>first|(cases h;done)|try simp only [h])|fail))
   refine hl3.tok rfl (by simp) (by simp;omega) (by decide) (fun v2 τ2 ho=>?_);simp -implicitDefEqProofs only [ho.own.BO,ho.own.As,ho.own.cells,ho.own.cell,ho.own.plain,ho.own.dv,if_true,go_sem]
   (repeat' (first|refine Run.ct rfl ?_|((first|refine Run.reg mixed ?_|refine Run.AM ?_|(refine Run.Af BG ho.le ?_)|(refine AQ rfl (fun h=>?_) (fun h=>?_)<;>try (cases h;done)))<;>try simp -implicitDefEqProofs only [ho.own.BO,ho.own.As,ho.own.cells,ho.own.cell,ho.own.plain,ho.own.dv,if_true,Bc,AE,AH,TE.A3,go_sem])|(refine ⟨fun h=>?_,fun h=>?_⟩<;>first|(cases h;done)|try simp only [h])|fail))
  |false=>
  have f7:=Ci h0 _ σ b0 t7
  simp only [if_false,AY,mT,teA,TE.A3,AE,AH]
  (repeat' (first|refine Run.ct rfl ?_|((first|refine Run.reg mixed ?_|refine Run.AM ?_|refine Run.Af BG (AN.le_refl _) ?_|(refine AG.upd (TJ h0 σ b0) ?_)|refine AG.det (hpk) ?_|refine AG.det (f1) ?_|refine AG.det (f2) ?_|refine AG.det (f3) ?_|refine AG.det (f4) ?_|refine AG.det (f5) ?_|refine AG.det (f6) ?_|refine AG.det (f7) ?_|(refine AQ rfl (fun h=>?_) (fun h=>?_)<;>try (cases h;done)))<;>try simp -implicitDefEqProofs only [hk1,hk2,go_sem])|(refine ⟨fun h=>?_,fun h=>?_⟩<;>first|(cases h;done)|try simp only [h])|fail))
end Go.Ab
namespace Go.Ab
open Go.Proofs
end Go.Ab
namespace Go.Ab
def gP (o:Option Nat):Int:=match o with|some i=>i|none=>-1
def Ex.op:Ex→Int| .mk o _ _ _ _ _=>o
def Ex.num:Ex→Int| .mk _ _ u _ _ _=>u
def Ex.name:Ex→Str| .mk _ n _ _ _ _=>n
def Ex.names:Ex→List Str| .mk _ _ _ ns _ _=>ns
def Ex.kids:Ex→List Ex| .mk _ _ _ _ ks _=>ks
def Ex.alts:Ex→List Al| .mk _ _ _ _ _ al=>al
def Al.con:Al→Str| .mk c _ _=>c
def Al.vars:Al→List Str| .mk _ vs _=>vs
def Al.body:Al→Ex| .mk _ _ b=>b
end Go.Ab
namespace Go.Ab
open Go.Proofs
theorem OQ {α:Type} {p:α→Bool} {l:List α} {i:Nat} {x:α} (h:∀y∈l.take i,p y=false) (hx:l[i]?=some x) (hp:p x=true):l.findIdx? p=some i:=by
 rw [List.findIdx?_eq_some_iff_getElem]
 obtain ⟨hl,he⟩:=A8.1 hx
 refine ⟨hl,by rw [he];exact hp,fun j hj=>?_⟩
 rw [h (l[j]'(by omega)) (List.mem_take_iff_getElem.2 ⟨j,by omega,rfl⟩)];simp
theorem OR {α:Type} {p:α→Bool} {l:List α} (h:∀y∈l,p y=false):l.findIdx? p=none:=by
 rw [List.findIdx?_eq_none_iff];exact h
theorem VT {α:Type} {p:α→Bool} {l:List α} {i:Nat} {x:α} (h:∀y∈l.take i,p y=false) (hx:l[i]?=some x) (hp:p x=false):∀y∈l.take (i+1),p y=false:=by
 intro y hy
 rw [La hx] at hy
 rcases BP.1 hy with hy|hy
 · exact h y hy
 · simp only [Fa] at hy;subst hy;exact hp
theorem VM (o:Option Nat):decide (0≤gP o)=o.isSome:=by
 cases o<;>simp [gP]
theorem M9 {α:Type} (p:α→Bool) (l:List α):(l.findIdx? p).isSome=l.any p:=by
 rw [List.findIdx?_isSome]
theorem RR {fid:FuncId} {caps:List AV} (hb:Am Tryz.prog fid=true) (hcp:caps.all AV.As=true) (p:Str→Bool) (l:List Str) (σ:AN) (hf:∀x∈l,AT Tryz.prog fid ((.d (.str x))::caps) σ (fun v σ'=>v= .d (.bool (p x))∧σ'=σ)):
 AT Tryz.prog 154 [.d (.sl (l.map Et)),.fn fid [] caps] σ (fun v σ'=>v= .d (.int .i64 (gP (l.findIdx? p)))∧σ'=σ):=by
 refine MV (by simp) ?_
 rw [BH]
 refine Run.slot 0 (fun hb0=>?_)
 simp only [I9,if_true,AV.FI,AI] at hb0
 (repeat' (first|refine Run.ct rfl ?_|((first|refine Run.reg mixed ?_|refine Run.AM ?_)<;>try simp -implicitDefEqProofs only [AI,go_sem])|fail))
 refine Run.Cm ?_
 refine Run.Cn ((fun (a0:AV) (a1:AV) (a7:AV)=>fun (i:Nat)=>put 0 a0 (put 1 a1 (put 7 a7 (put 8 (.d (.int .i64 i)) U)))) _ _ _) (fun _=>E) (fun _=>σ) (fun i=>i≤l.length∧∀x∈l.take i,p x=false) (fun i=>l.length - i) ?_ 0 ⟨by simp,by simp⟩
 rintro i ⟨hi,hno⟩ ih
 by_cases hlt:i < l.length
 · obtain ⟨x,hx⟩:=D1 hlt
   have he:=C0 (enc:=Et) hx
   have hw1:IntKind.i64.wrap ((i:Int)+1)=((i+1:Nat):Int):=by rw [BL (by omega) (by omega)];omega
   have hc:=hf x (Ai hx)
   simp only [Et] at he
   cases hp:p x with
   |true=>
    rw [hp] at hc
    (repeat' (first|refine Run.ct rfl ?_|((first|refine Run.reg mixed ?_|refine Run.AM ?_|refine Run.Af E8 (AN.le_refl _) ?_|(refine ⟨fid,[],caps,rfl,hb,AG.det hc ?_ (by simp [hcp,J0,FJ])⟩))<;>try simp -implicitDefEqProofs only [Ca hlt,he,hw1,go_sem])|fail))
    rw [OQ hno hx hp];rfl
   |false=>
    rw [hp] at hc
    (repeat' (first|refine Run.ct rfl ?_|((first|refine Run.reg mixed ?_|refine Run.AM ?_|(refine ⟨fid,[],caps,rfl,hb,AG.det hc ?_ (by simp [hcp,J0,FJ])⟩))<;>try simp -implicitDefEqProofs only [Ca hlt,he,hw1,go_sem])|fail))
    exact ih (i+1) ⟨by omega,VT hno hx hp⟩ (by omega)
 · (repeat' (first|refine Run.ct rfl ?_|((first|refine Run.reg mixed ?_|refine Run.AM ?_|refine Run.Af E8 (AN.le_refl _) ?_)<;>try simp -implicitDefEqProofs only [JZ hlt,go_sem])|fail))
   rw [Aq (by omega)] at hno
   rw [OR hno];rfl
theorem OF {fid:FuncId} {caps:List AV} (hb:Am Tryz.prog fid=true) (hcp:caps.all AV.As=true) (p:Str→Bool) (l:List Str) (σ:AN) (hf:∀x∈l,AT Tryz.prog fid ((.d (.str x))::caps) σ (fun v σ'=>v= .d (.bool (p x))∧σ'=σ)):
 AT Tryz.prog 108 [.d (.sl (l.map Et)),.fn fid [] caps] σ (fun v σ'=>v= .d (.bool (l.any p))∧σ'=σ):=by
 refine Kb (by simp) ?_
 rw [BH]
 (repeat' (first|refine Run.ct rfl ?_|((first|refine Run.reg mixed ?_|refine Run.AM ?_|refine Run.Af Fh (AN.le_refl _) ?_|refine AG.det (RR hb hcp p l σ hf) ?_)<;>try simp -implicitDefEqProofs only [VM,M9,go_sem])|fail))
theorem Um {fid:FuncId} {caps:List AV} (hb:Am Tryz.prog fid=true) (hcp:caps.all AV.As=true) (x:Str) (b:Bool) (j:Nat) (σ:AN) (hj:σ.blk j=some [.fn fid [] caps]) (hf:AT Tryz.prog fid ((.d (.str x))::caps) σ (fun v σ'=>v= .d (.bool b)∧σ'=σ)):
 AT Tryz.prog 109 [(.d (.str x)),.gp j 0] σ (fun v σ'=>v= .d (.bool (!b))∧σ'=σ):=by
 refine PO (by simp) ?_
 rw [BH]
 (repeat' (first|refine Run.ct rfl ?_|((first|refine Run.reg mixed ?_|refine Run.AM ?_|refine Run.Af JE (AN.le_refl _) ?_|(refine ⟨fid,[],caps,rfl,hb,AG.det hf ?_ (by simp [hcp,J0,FJ])⟩))<;>try simp -implicitDefEqProofs only [hj,go_sem])|fail))
theorem Gx {fid:FuncId} {caps:List AV} (hb:Am Tryz.prog fid=true) (hcp:caps.all AV.As=true) (p:Str→Bool) (l:List Str) (σ:AN) (hf:∀x∈l,∀σ1,σ.le σ1→AT Tryz.prog fid ((.d (.str x))::caps) σ1 (fun v σ'=>v= .d (.bool (p x))∧σ'=σ1)):
 AT Tryz.prog 52 [.d (.sl (l.map Et)),.fn fid [] caps] σ (fun v σ'=>v= .d (.bool (l.all p))∧σ'=σ):=by
 refine RZ (by simp) ?_
 rw [BH]
 (repeat' (first|refine Run.ct rfl ?_|((first|refine Run.reg mixed ?_|refine Run.AM ?_)<;>try simp -implicitDefEqProofs only [go_sem])|fail))
 intro j hj
 have hle:=Ec (cs:=[.fn fid [] caps]) hj
 (repeat' (first|refine Run.ct rfl ?_|((first|refine Run.reg mixed ?_|refine Run.AM ?_|(refine Run.Af Ky (σ2:=σ) hle ?_)|refine AG.det (OF (by kernel_rfl) rfl (fun x=>!p x) l _ (fun x hx=>Um hb hcp x (p x) j _ (by simp only [AO,if_true]) (hf x hx _ hle))) ?_)<;>try simp -implicitDefEqProofs only [go_sem])|fail))
 simp [M8]
theorem MS {fid:FuncId} {caps:List AV} (hb:Am Tryz.prog fid=true) (hcp:caps.all AV.As=true) (p:TE→Bool) (l:List TE) (σ:AN) (hf:∀x∈l,AT Tryz.prog fid ((teA x)::caps) σ (fun v σ'=>v= .d (.bool (p x))∧σ'=σ)):
 AT Tryz.prog 179 [.d (.sl (l.map TE.enc)),.fn fid [] caps] σ (fun v σ'=>v= .d (.int .i64 (gP (l.findIdx? p)))∧σ'=σ):=by
 refine Ij (by simp) ?_
 rw [BH]
 refine Run.slot 0 (fun hb0=>?_)
 simp only [I9,if_true,AV.FI,AI] at hb0
 (repeat' (first|refine Run.ct rfl ?_|((first|refine Run.reg mixed ?_|refine Run.AM ?_)<;>try simp -implicitDefEqProofs only [AI,go_sem])|fail))
 refine Run.Cm ?_
 refine Run.Cn ((fun (a0:AV) (a1:AV) (a7:AV)=>fun (i:Nat)=>put 0 a0 (put 1 a1 (put 7 a7 (put 8 (.d (.int .i64 i)) U)))) _ _ _) (fun _=>E) (fun _=>σ) (fun i=>i≤l.length∧∀x∈l.take i,p x=false) (fun i=>l.length - i) ?_ 0 ⟨by simp,by simp⟩
 rintro i ⟨hi,hno⟩ ih
 by_cases hlt:i < l.length
 · obtain ⟨x,hx⟩:=D1 hlt
   have he:=C0 (enc:=TE.enc) hx
   have hw1:IntKind.i64.wrap ((i:Int)+1)=((i+1:Nat):Int):=by rw [BL (by omega) (by omega)];omega
   have hc:=hf x (Ai hx)
   obtain ⟨k,n,al⟩:=x
   simp only [TE.A3,teA,AE,AH] at he hc
   cases hp:p (.mk k n al) with
   |true=>
    rw [hp] at hc
    (repeat' (first|refine Run.ct rfl ?_|((first|refine Run.reg mixed ?_|refine Run.AM ?_|refine Run.Af DG (AN.le_refl _) ?_|(refine ⟨fid,[],caps,rfl,hb,AG.det hc ?_ (by simp [hcp,J0,FJ])⟩))<;>try simp -implicitDefEqProofs only [Ca hlt,he,hw1,go_sem])|fail))
    rw [OQ hno hx hp];rfl
   |false=>
    rw [hp] at hc
    (repeat' (first|refine Run.ct rfl ?_|((first|refine Run.reg mixed ?_|refine Run.AM ?_|(refine ⟨fid,[],caps,rfl,hb,AG.det hc ?_ (by simp [hcp,J0,FJ])⟩))<;>try simp -implicitDefEqProofs only [Ca hlt,he,hw1,go_sem])|fail))
    exact ih (i+1) ⟨by omega,VT hno hx hp⟩ (by omega)
 · (repeat' (first|refine Run.ct rfl ?_|((first|refine Run.reg mixed ?_|refine Run.AM ?_|refine Run.Af DG (AN.le_refl _) ?_)<;>try simp -implicitDefEqProofs only [JZ hlt,go_sem])|fail))
   rw [Aq (by omega)] at hno
   rw [OR hno];rfl
theorem KZ {fid:FuncId} {caps:List AV} (hb:Am Tryz.prog fid=true) (hcp:caps.all AV.As=true) (p:TE→Bool) (l:List TE) (σ:AN) (hf:∀x∈l,AT Tryz.prog fid ((teA x)::caps) σ (fun v σ'=>v= .d (.bool (p x))∧σ'=σ)):
 AT Tryz.prog 151 [.d (.sl (l.map TE.enc)),.fn fid [] caps] σ (fun v σ'=>v= .d (.bool (l.any p))∧σ'=σ):=by
 refine H6 (by simp) ?_
 rw [BH]
 (repeat' (first|refine Run.ct rfl ?_|((first|refine Run.reg mixed ?_|refine Run.AM ?_|refine Run.Af ET (AN.le_refl _) ?_|refine AG.det (MS hb hcp p l σ hf) ?_)<;>try simp -implicitDefEqProofs only [VM,M9,go_sem])|fail))
theorem PK {fid:FuncId} {caps:List AV} (hb:Am Tryz.prog fid=true) (hcp:caps.all AV.As=true) (x:TE) (b:Bool) (j:Nat) (σ:AN) (hj:σ.blk j=some [.fn fid [] caps]) (hf:AT Tryz.prog fid ((teA x)::caps) σ (fun v σ'=>v= .d (.bool b)∧σ'=σ)):
 AT Tryz.prog 152 [(teA x),.gp j 0] σ (fun v σ'=>v= .d (.bool (!b))∧σ'=σ):=by
 refine LR (by simp) ?_
 rw [BH]
 obtain ⟨k,n,al⟩:=x
 simp only [TE.A3,teA,AE,AH] at hf ⊢
 (repeat' (first|refine Run.ct rfl ?_|((first|refine Run.reg mixed ?_|refine Run.AM ?_|refine Run.Af GC (AN.le_refl _) ?_|(refine ⟨fid,[],caps,rfl,hb,AG.det hf ?_ (by simp [hcp,J0,FJ])⟩))<;>try simp -implicitDefEqProofs only [hj,go_sem])|fail))
theorem Kp {fid:FuncId} {caps:List AV} (hb:Am Tryz.prog fid=true) (hcp:caps.all AV.As=true) (p:TE→Bool) (l:List TE) (σ:AN) (hf:∀x∈l,∀σ1,σ.le σ1→AT Tryz.prog fid ((teA x)::caps) σ1 (fun v σ'=>v= .d (.bool (p x))∧σ'=σ1)):
 AT Tryz.prog 104 [.d (.sl (l.map TE.enc)),.fn fid [] caps] σ (fun v σ'=>v= .d (.bool (l.all p))∧σ'=σ):=by
 refine MW (by simp) ?_
 rw [BH]
 (repeat' (first|refine Run.ct rfl ?_|((first|refine Run.reg mixed ?_|refine Run.AM ?_)<;>try simp -implicitDefEqProofs only [go_sem])|fail))
 intro j hj
 have hle:=Ec (cs:=[.fn fid [] caps]) hj
 (repeat' (first|refine Run.ct rfl ?_|((first|refine Run.reg mixed ?_|refine Run.AM ?_|(refine Run.Af Gn (σ2:=σ) hle ?_)|refine AG.det (KZ (by kernel_rfl) rfl (fun x=>!p x) l _ (fun x hx=>PK hb hcp x (p x) j _ (by simp only [AO,if_true]) (hf x hx _ hle))) ?_)<;>try simp -implicitDefEqProofs only [go_sem])|fail))
 simp [M8]
theorem Mj {fid:FuncId} {caps:List AV} (hb:Am Tryz.prog fid=true) (hcp:caps.all AV.As=true) (p:CE→Bool) (l:List CE) (σ:AN) (hf:∀x∈l,AT Tryz.prog fid ((ceA x)::caps) σ (fun v σ'=>v= .d (.bool (p x))∧σ'=σ)):
 AT Tryz.prog 178 [.d (.sl (l.map CE.enc)),.fn fid [] caps] σ (fun v σ'=>v= .d (.int .i64 (gP (l.findIdx? p)))∧σ'=σ):=by
 refine JV (by simp) ?_
 rw [BH]
 refine Run.slot 0 (fun hb0=>?_)
 simp only [I9,if_true,AV.FI,AI] at hb0
 (repeat' (first|refine Run.ct rfl ?_|((first|refine Run.reg mixed ?_|refine Run.AM ?_)<;>try simp -implicitDefEqProofs only [AI,go_sem])|fail))
 refine Run.Cm ?_
 refine Run.Cn ((fun (a0:AV) (a1:AV) (a7:AV)=>fun (i:Nat)=>put 0 a0 (put 1 a1 (put 7 a7 (put 8 (.d (.int .i64 i)) U)))) _ _ _) (fun _=>E) (fun _=>σ) (fun i=>i≤l.length∧∀x∈l.take i,p x=false) (fun i=>l.length - i) ?_ 0 ⟨by simp,by simp⟩
 rintro i ⟨hi,hno⟩ ih
 by_cases hlt:i < l.length
 · obtain ⟨x,hx⟩:=D1 hlt
   have he:=C0 (enc:=CE.enc) hx
   have hw1:IntKind.i64.wrap ((i:Int)+1)=((i+1:Nat):Int):=by rw [BL (by omega) (by omega)];omega
   have hc:=hf x (Ai hx)
   obtain ⟨nm,ar⟩:=x
   simp only [CE.enc,ceA,AE,AH] at he hc
   cases hp:p (⟨nm,ar⟩) with
   |true=>
    rw [hp] at hc
    (repeat' (first|refine Run.ct rfl ?_|((first|refine Run.reg mixed ?_|refine Run.AM ?_|refine Run.Af DW (AN.le_refl _) ?_|(refine ⟨fid,[],caps,rfl,hb,AG.det hc ?_ (by simp [hcp,J0,FJ])⟩))<;>try simp -implicitDefEqProofs only [Ca hlt,he,hw1,go_sem])|fail))
    rw [OQ hno hx hp];rfl
   |false=>
    rw [hp] at hc
    (repeat' (first|refine Run.ct rfl ?_|((first|refine Run.reg mixed ?_|refine Run.AM ?_|(refine ⟨fid,[],caps,rfl,hb,AG.det hc ?_ (by simp [hcp,J0,FJ])⟩))<;>try simp -implicitDefEqProofs only [Ca hlt,he,hw1,go_sem])|fail))
    exact ih (i+1) ⟨by omega,VT hno hx hp⟩ (by omega)
 · (repeat' (first|refine Run.ct rfl ?_|((first|refine Run.reg mixed ?_|refine Run.AM ?_|refine Run.Af DW (AN.le_refl _) ?_)<;>try simp -implicitDefEqProofs only [JZ hlt,go_sem])|fail))
   rw [Aq (by omega)] at hno
   rw [OR hno];rfl
theorem LJ {fid:FuncId} {caps:List AV} (hb:Am Tryz.prog fid=true) (hcp:caps.all AV.As=true) (p:CE→Bool) (l:List CE) (σ:AN) (hf:∀x∈l,AT Tryz.prog fid ((ceA x)::caps) σ (fun v σ'=>v= .d (.bool (p x))∧σ'=σ)):
 AT Tryz.prog 149 [.d (.sl (l.map CE.enc)),.fn fid [] caps] σ (fun v σ'=>v= .d (.bool (l.any p))∧σ'=σ):=by
 refine Hw (by simp) ?_
 rw [BH]
 (repeat' (first|refine Run.ct rfl ?_|((first|refine Run.reg mixed ?_|refine Run.AM ?_|refine Run.Af E5 (AN.le_refl _) ?_|refine AG.det (Mj hb hcp p l σ hf) ?_)<;>try simp -implicitDefEqProofs only [VM,M9,go_sem])|fail))
theorem Pv {fid:FuncId} {caps:List AV} (hb:Am Tryz.prog fid=true) (hcp:caps.all AV.As=true) (x:CE) (b:Bool) (j:Nat) (σ:AN) (hj:σ.blk j=some [.fn fid [] caps]) (hf:AT Tryz.prog fid ((ceA x)::caps) σ (fun v σ'=>v= .d (.bool b)∧σ'=σ)):
 AT Tryz.prog 150 [(ceA x),.gp j 0] σ (fun v σ'=>v= .d (.bool (!b))∧σ'=σ):=by
 refine Lw (by simp) ?_
 rw [BH]
 obtain ⟨nm,ar⟩:=x
 simp only [CE.enc,ceA,AE,AH] at hf ⊢
 (repeat' (first|refine Run.ct rfl ?_|((first|refine Run.reg mixed ?_|refine Run.AM ?_|refine Run.Af GS (AN.le_refl _) ?_|(refine ⟨fid,[],caps,rfl,hb,AG.det hf ?_ (by simp [hcp,J0,FJ])⟩))<;>try simp -implicitDefEqProofs only [hj,go_sem])|fail))
theorem SO {fid:FuncId} {caps:List AV} (hb:Am Tryz.prog fid=true) (hcp:caps.all AV.As=true) (p:CE→Bool) (l:List CE) (σ:AN) (hf:∀x∈l,∀σ1,σ.le σ1→AT Tryz.prog fid ((ceA x)::caps) σ1 (fun v σ'=>v= .d (.bool (p x))∧σ'=σ1)):
 AT Tryz.prog 102 [.d (.sl (l.map CE.enc)),.fn fid [] caps] σ (fun v σ'=>v= .d (.bool (l.all p))∧σ'=σ):=by
 refine Mp (by simp) ?_
 rw [BH]
 (repeat' (first|refine Run.ct rfl ?_|((first|refine Run.reg mixed ?_|refine Run.AM ?_)<;>try simp -implicitDefEqProofs only [go_sem])|fail))
 intro j hj
 have hle:=Ec (cs:=[.fn fid [] caps]) hj
 (repeat' (first|refine Run.ct rfl ?_|((first|refine Run.reg mixed ?_|refine Run.AM ?_|(refine Run.Af HJ (σ2:=σ) hle ?_)|refine AG.det (LJ (by kernel_rfl) rfl (fun x=>!p x) l _ (fun x hx=>Pv hb hcp x (p x) j _ (by simp only [AO,if_true]) (hf x hx _ hle))) ?_)<;>try simp -implicitDefEqProofs only [go_sem])|fail))
 simp [M8]
theorem Pq {fid:FuncId} {caps:List AV} (hb:Am Tryz.prog fid=true) (hcp:caps.all AV.As=true) (p:Al→Bool) (l:List Al) (σ:AN) (hf:∀x∈l,AT Tryz.prog fid ((alA x)::caps) σ (fun v σ'=>v= .d (.bool (p x))∧σ'=σ)):
 AT Tryz.prog 195 [.d (.sl (l.map Al.enc)),.fn fid [] caps] σ (fun v σ'=>v= .d (.int .i64 (gP (l.findIdx? p)))∧σ'=σ):=by
 refine Lv (by simp) ?_
 rw [BH]
 refine Run.slot 0 (fun hb0=>?_)
 simp only [I9,if_true,AV.FI,AI] at hb0
 (repeat' (first|refine Run.ct rfl ?_|((first|refine Run.reg mixed ?_|refine Run.AM ?_)<;>try simp -implicitDefEqProofs only [AI,go_sem])|fail))
 refine Run.Cm ?_
 refine Run.Cn ((fun (a0:AV) (a1:AV) (a7:AV)=>fun (i:Nat)=>put 0 a0 (put 1 a1 (put 7 a7 (put 8 (.d (.int .i64 i)) U)))) _ _ _) (fun _=>E) (fun _=>σ) (fun i=>i≤l.length∧∀x∈l.take i,p x=false) (fun i=>l.length - i) ?_ 0 ⟨by simp,by simp⟩
 rintro i ⟨hi,hno⟩ ih
 by_cases hlt:i < l.length
 · obtain ⟨x,hx⟩:=D1 hlt
   have he:=C0 (enc:=Al.enc) hx
   have hw1:IntKind.i64.wrap ((i:Int)+1)=((i+1:Nat):Int):=by rw [BL (by omega) (by omega)];omega
   have hc:=hf x (Ai hx)
   obtain ⟨c,vs,o,n,u,ns,ks,al⟩:=x
   simp only [Al.A3,alA,AE,AH] at he hc
   cases hp:p (.mk c vs (.mk o n u ns ks al)) with
   |true=>
    rw [hp] at hc
    (repeat' (first|refine Run.ct rfl ?_|((first|refine Run.reg mixed ?_|refine Run.AM ?_|refine Run.Af EU (AN.le_refl _) ?_|(refine ⟨fid,[],caps,rfl,hb,AG.det hc ?_ (by simp [hcp,J0,FJ])⟩))<;>try simp -implicitDefEqProofs only [Ca hlt,he,hw1,go_sem])|fail))
    rw [OQ hno hx hp];rfl
   |false=>
    rw [hp] at hc
    (repeat' (first|refine Run.ct rfl ?_|((first|refine Run.reg mixed ?_|refine Run.AM ?_|(refine ⟨fid,[],caps,rfl,hb,AG.det hc ?_ (by simp [hcp,J0,FJ])⟩))<;>try simp -implicitDefEqProofs only [Ca hlt,he,hw1,go_sem])|fail))
    exact ih (i+1) ⟨by omega,VT hno hx hp⟩ (by omega)
 · (repeat' (first|refine Run.ct rfl ?_|((first|refine Run.reg mixed ?_|refine Run.AM ?_|refine Run.Af EU (AN.le_refl _) ?_)<;>try simp -implicitDefEqProofs only [JZ hlt,go_sem])|fail))
   rw [Aq (by omega)] at hno
   rw [OR hno];rfl
theorem NI {fid:FuncId} {caps:List AV} (hb:Am Tryz.prog fid=true) (hcp:caps.all AV.As=true) (p:Al→Bool) (l:List Al) (σ:AN) (hf:∀x∈l,AT Tryz.prog fid ((alA x)::caps) σ (fun v σ'=>v= .d (.bool (p x))∧σ'=σ)):
 AT Tryz.prog 180 [.d (.sl (l.map Al.enc)),.fn fid [] caps] σ (fun v σ'=>v= .d (.bool (l.any p))∧σ'=σ):=by
 refine KI (by simp) ?_
 rw [BH]
 (repeat' (first|refine Run.ct rfl ?_|((first|refine Run.reg mixed ?_|refine Run.AM ?_|refine Run.Af FY (AN.le_refl _) ?_|refine AG.det (Pq hb hcp p l σ hf) ?_)<;>try simp -implicitDefEqProofs only [VM,M9,go_sem])|fail))
theorem Te {fid:FuncId} {caps:List AV} (hb:Am Tryz.prog fid=true) (hcp:caps.all AV.As=true) (x:Al) (b:Bool) (j:Nat) (σ:AN) (hj:σ.blk j=some [.fn fid [] caps]) (hf:AT Tryz.prog fid ((alA x)::caps) σ (fun v σ'=>v= .d (.bool b)∧σ'=σ)):
 AT Tryz.prog 181 [(alA x),.gp j 0] σ (fun v σ'=>v= .d (.bool (!b))∧σ'=σ):=by
 refine OU (by simp) ?_
 rw [BH]
 obtain ⟨c,vs,o,n,u,ns,ks,al⟩:=x
 simp only [Al.A3,alA,AE,AH] at hf ⊢
 (repeat' (first|refine Run.ct rfl ?_|((first|refine Run.reg mixed ?_|refine Run.AM ?_|refine Run.Af IW (AN.le_refl _) ?_|(refine ⟨fid,[],caps,rfl,hb,AG.det hf ?_ (by simp [hcp,J0,FJ])⟩))<;>try simp -implicitDefEqProofs only [hj,go_sem])|fail))
theorem V9 {fid:FuncId} {caps:List AV} (hb:Am Tryz.prog fid=true) (hcp:caps.all AV.As=true) (p:Al→Bool) (l:List Al) (σ:AN) (hf:∀x∈l,∀σ1,σ.le σ1→AT Tryz.prog fid ((alA x)::caps) σ1 (fun v σ'=>v= .d (.bool (p x))∧σ'=σ1)):
 AT Tryz.prog 158 [.d (.sl (l.map Al.enc)),.fn fid [] caps] σ (fun v σ'=>v= .d (.bool (l.all p))∧σ'=σ):=by
 refine QI (by simp) ?_
 rw [BH]
 (repeat' (first|refine Run.ct rfl ?_|((first|refine Run.reg mixed ?_|refine Run.AM ?_)<;>try simp -implicitDefEqProofs only [go_sem])|fail))
 intro j hj
 have hle:=Ec (cs:=[.fn fid [] caps]) hj
 (repeat' (first|refine Run.ct rfl ?_|((first|refine Run.reg mixed ?_|refine Run.AM ?_|(refine Run.Af KA (σ2:=σ) hle ?_)|refine AG.det (NI (by kernel_rfl) rfl (fun x=>!p x) l _ (fun x hx=>Te hb hcp x (p x) j _ (by simp only [AO,if_true]) (hf x hx _ hle))) ?_)<;>try simp -implicitDefEqProofs only [go_sem])|fail))
 simp [M8]
end Go.Ab
