/- The parser: types. Texts split into tokens, as the reference does it. Lists searched with a function. Conditions: none. -/
import Derived.Test.YtifplkldbbcldaaGreatDoorXGm
set_option linter.unusedSimpArgs false
set_option linter.unusedVariables false
set_option maxRecDepth 4000
set_option maxHeartbeats 8000000
open List renaming map_cons→AD,map_nil→AG,mem_map→Lg,length_pos_iff→Ar,length_map→AF,length_cons→AE,length_nil→AH,map_append→Bn,getElem?_eq_some_iff→Aa,mem_append→BN,mem_singleton→FB,mem_of_getElem?→A6,take_of_length_le→Ae,any_eq_not_all_not→Ny
open Bool renaming false_eq_true→A1
namespace Go.Ab
open Go.Proofs
variable {α β:Type}
theorem run_bind (m:PM α) (k:α→PM β) (s:PSt):(m.bind k).run s=(k (m.run s).1).run (m.run s).2:=rfl
theorem run_pure (a:α) (s:PSt):(PM.pure a).run s=(a,s):=rfl
theorem rU (a:α) (s:PSt):(PM.fail a).run s=(a,s.fail):=rfl
theorem run_map (g:α→β) (m:PM α) (s:PSt):(m.map g).run s=(g (m.run s).1,(m.run s).2):=rfl
theorem eY (k:Int) (y n:PM α) (s:PSt):(PM.kind k y n).run s=if (s.hd.kind==k)=true then y.run s else n.run s:=rfl
theorem H8 (t:Str) (ht:t≠[]) (y n:PM α) (s:PSt):(PM.acc t ht y n).run s=if (s.hd.text==t)=true then y.run s.adv else n.run s:=rfl
theorem DJ (i:Nat) (L:List Tok) (n:Nat) (t:Str) (ht:t≠[]):PC 127 [.gp i 0,.d (.str t)] i L n (PM.exp t ht) (fun _=>.tup []):=fun σ s _ h1 _ h3=>UH h1 t ht σ h3
theorem Sg (i:Nat) (L:List Tok) (n:Nat):PC 124 [.gp i 0,.d (.int .i64 2)] i L n F3 (fun x=>.d (.str x)):=cO i L n 2 (by decide)
theorem jZ (i:Nat) (L:List Tok) (n:Nat) {T:PM TE} (hT:PC 168 [.gp i 0] i L n T teA) (k:Int):PC 184 [.gp i 0,.d (.int .i64 k)] i L n (SU k T) teA:=by
 intro σ s0 g0 h0 l0 b0
 refine Oz (by simp) ?_
 rw [Ax]
 simp only [SU,run_bind,run_pure,teA,TE.A2,AD,AG]
 (have c0:=(DJ i L n [40] (by decide)) σ s0 g0 h0 (by omega) b0;have h1:=h0.run (PM.exp [40] (by decide));have l1:=PM.le (PM.exp [40] (by decide)) h0.wf;generalize (PM.exp [40] (by decide)).run s0=y at c0 h1 l1 ⊢;obtain ⟨x0,s1⟩:=y;simp only at c0 h1 l1 ⊢;have b1:(σ.AL i (psA L s1)).blk i=some (psA L s1):=(by rw [AO,if_pos rfl]))
 (have c1:=hT (σ.AL i (psA L s1)) s1 g0 h1 (by omega) b1;rw [A3] at c1;have h2:=h1.run (T);have l2:=PM.le (T) h1.wf;generalize (T).run s1=y at c1 h2 l2 ⊢;obtain ⟨x1,s2⟩:=y;simp only at c1 h2 l2 ⊢;have b2:(σ.AL i (psA L s2)).blk i=some (psA L s2):=(by rw [AO,if_pos rfl]);obtain ⟨k0,n0,a0⟩:=x1;simp only [teA,TE.A2,AD,AG] at c1 ⊢)
 (have c2:=(DJ i L n [41] (by decide)) (σ.AL i (psA L s2)) s2 g0 h2 (by omega) b2;rw [A3] at c2;have h3:=h2.run (PM.exp [41] (by decide));have l3:=PM.le (PM.exp [41] (by decide)) h2.wf;generalize (PM.exp [41] (by decide)).run s2=y at c2 h3 l3 ⊢;obtain ⟨x2,s3⟩:=y;simp only at c2 h3 l3 ⊢;have b3:(σ.AL i (psA L s3)).blk i=some (psA L s3):=(by rw [AO,if_pos rfl]))
 (repeat' (first|refine Run.ct rfl ?_|((first|refine Run.reg mixed ?_|refine Run.AJ ?_|refine Run.A9 Ik (AM.le_refl _) ?_|(refine AI.upd c0 ?_)|(refine AI.upd c1 ?_)|(refine AI.upd c2 ?_)|(refine AP rfl (fun h=>?_) (fun h=>?_)<;>try (cases h;done)))<;>try simp -implicitDefEqProofs only [go_sem])|(refine ⟨fun h=>?_,fun h=>?_⟩<;>first|(cases h;done)|try simp only [h])|fail))
theorem TE.hJ (t:TE):t.enc.length=3:=by cases t;rw [TE.A2];rfl
theorem N1 {α:Type} {enc:α→List DV} (z:Nat) (l:List α) (h:∀x,(enc x).length=z):∀r∈l.map enc,r.length=z:=fun r hr=>by
 obtain ⟨x,_,rfl⟩:=Lg.1 hr
 exact h x
theorem Xw:Am Tryz.prog 168=true:=by kernel_rfl
set_option maxHeartbeats 4000000 in
theorem sC (i:Nat) (L:List Tok):∀n,PC 168 [.gp i 0] i L n (GB n) teA
 |0=>fun σ s _ h1 h2 h3=>by have:=Ar.2 h1.wf.ne;omega
 |n+1=>by
  have ih:=sC i L n
  intro σ s0 g0 h0 l0 b0
  refine TM (by simp) ?_
  rw [BO]
  have hpk:=QW h0 σ b0
  rw [GB]
  simp only [eY,H8]
  cases hk1:s0.hd.kind==1 with
  |true=>
   simp only [if_true,run_bind,run_pure,teA,TE.A2,AD,AG]
   (have c0:=(QU i L (n+1)) σ s0 g0 h0 (by omega) b0;have h1:=h0.run (Fs);have l1:=PM.le (Fs) h0.wf;generalize (Fs).run s0=y at c0 h1 l1 ⊢;obtain ⟨x0,s1⟩:=y;simp only at c0 h1 l1 ⊢;have b1:(σ.AL i (psA L s1)).blk i=some (psA L s1):=(by rw [AO,if_pos rfl]))
   (repeat' (first|refine Run.ct rfl ?_|((first|refine Run.reg mixed ?_|refine Run.AJ ?_|refine Run.A9 BJ (AM.le_refl _) ?_|(refine AI.upd c0 ?_)|refine AI.det (hpk) ?_|(refine AP rfl (fun h=>?_) (fun h=>?_)<;>try (cases h;done)))<;>try simp -implicitDefEqProofs only [hk1,go_sem])|(refine ⟨fun h=>?_,fun h=>?_⟩<;>first|(cases h;done)|try simp only [h])|fail))
  |false=>
  cases hk2:s0.hd.kind==2 with
  |true=>
   simp only [if_true,if_false,A1,run_bind,run_pure,teA,TE.A2,AD,AG]
   (have c0:=(Sg i L (n+1)) σ s0 g0 h0 (by omega) b0;have h1:=h0.run (F3);have l1:=PM.le (F3) h0.wf;generalize (F3).run s0=y at c0 h1 l1 ⊢;obtain ⟨x0,s1⟩:=y;simp only at c0 h1 l1 ⊢;have b1:(σ.AL i (psA L s1)).blk i=some (psA L s1):=(by rw [AO,if_pos rfl]))
   (have c1:=(J6 i L n Xw ih).pc (σ.AL i (psA L s1)) s1 g0 h1 (by omega) b1;rw [A3] at c1;have h2:=h1.run (I7 (GB n));have l2:=PM.le (I7 (GB n)) h1.wf;generalize (I7 (GB n)).run s1=y at c1 h2 l2 ⊢;obtain ⟨x1,s2⟩:=y;simp only at c1 h2 l2 ⊢;have b2:(σ.AL i (psA L s2)).blk i=some (psA L s2):=(by rw [AO,if_pos rfl]))
   (repeat' (first|refine Run.ct rfl ?_|((first|refine Run.reg mixed ?_|refine Run.AJ ?_|refine Run.A9 BJ (AM.le_refl _) ?_|(refine AI.upd c0 ?_)|(refine AI.upd c1 ?_)|refine AI.det (hpk) ?_|(refine AP rfl (fun h=>?_) (fun h=>?_)<;>try (cases h;done)))<;>try simp -implicitDefEqProofs only [hk1,hk2,go_sem])|(refine ⟨fun h=>?_,fun h=>?_⟩<;>first|(cases h;done)|try simp only [h])|fail))
  |false=>
  simp only [if_false,A1]
  cases t1:s0.hd.text==[105,110,116] with
  |true=>
   simp only [if_true,run_pure,teA,TE.A2,AD,AG]
   (have c0:=DH h0 [105,110,116] σ b0 t1;have h1:=h0.adv (t:=[105,110,116]) (by decide) t1;have l1:=BP h0.wf;generalize s0.adv=s1 at c0 h1 l1 ⊢;have b1:(σ.AL i (psA L s1)).blk i=some (psA L s1):=by rw [AO,if_pos rfl])
   (repeat' (first|refine Run.ct rfl ?_|((first|refine Run.reg mixed ?_|refine Run.AJ ?_|refine Run.A9 BJ (AM.le_refl _) ?_|(refine AI.upd c0 ?_)|refine AI.det (hpk) ?_|(refine AP rfl (fun h=>?_) (fun h=>?_)<;>try (cases h;done)))<;>try simp -implicitDefEqProofs only [hk1,hk2,go_sem])|(refine ⟨fun h=>?_,fun h=>?_⟩<;>first|(cases h;done)|try simp only [h])|fail))
  |false=>
  have f1:=DG h0 _ σ b0 t1
  cases t2:s0.hd.text==[98,111,111,108] with
  |true=>
   simp only [if_true,if_false,A1,run_pure,teA,TE.A2,AD,AG]
   (have c0:=DH h0 [98,111,111,108] σ b0 t2;have h1:=h0.adv (t:=[98,111,111,108]) (by decide) t2;have l1:=BP h0.wf;generalize s0.adv=s1 at c0 h1 l1 ⊢;have b1:(σ.AL i (psA L s1)).blk i=some (psA L s1):=by rw [AO,if_pos rfl])
   (repeat' (first|refine Run.ct rfl ?_|((first|refine Run.reg mixed ?_|refine Run.AJ ?_|refine Run.A9 BJ (AM.le_refl _) ?_|(refine AI.upd c0 ?_)|refine AI.det (hpk) ?_|refine AI.det (f1) ?_|(refine AP rfl (fun h=>?_) (fun h=>?_)<;>try (cases h;done)))<;>try simp -implicitDefEqProofs only [hk1,hk2,go_sem])|(refine ⟨fun h=>?_,fun h=>?_⟩<;>first|(cases h;done)|try simp only [h])|fail))
  |false=>
  have f2:=DG h0 _ σ b0 t2
  cases t3:s0.hd.text==[117,110,105,116] with
  |true=>
   simp only [if_true,if_false,A1,run_pure,teA,TE.A2,AD,AG]
   (have c0:=DH h0 [117,110,105,116] σ b0 t3;have h1:=h0.adv (t:=[117,110,105,116]) (by decide) t3;have l1:=BP h0.wf;generalize s0.adv=s1 at c0 h1 l1 ⊢;have b1:(σ.AL i (psA L s1)).blk i=some (psA L s1):=by rw [AO,if_pos rfl])
   (repeat' (first|refine Run.ct rfl ?_|((first|refine Run.reg mixed ?_|refine Run.AJ ?_|refine Run.A9 BJ (AM.le_refl _) ?_|(refine AI.upd c0 ?_)|refine AI.det (hpk) ?_|refine AI.det (f1) ?_|refine AI.det (f2) ?_|(refine AP rfl (fun h=>?_) (fun h=>?_)<;>try (cases h;done)))<;>try simp -implicitDefEqProofs only [hk1,hk2,go_sem])|(refine ⟨fun h=>?_,fun h=>?_⟩<;>first|(cases h;done)|try simp only [h])|fail))
  |false=>
  have f3:=DG h0 _ σ b0 t3
  cases t4:s0.hd.text==[97,114,114,97,121] with
  |true=>
   simp only [if_true,if_false,A1]
   (have c0:=DH h0 [97,114,114,97,121] σ b0 t4;have h1:=h0.adv (t:=[97,114,114,97,121]) (by decide) t4;have l1:=BP h0.wf;generalize s0.adv=s1 at c0 h1 l1 ⊢;have b1:(σ.AL i (psA L s1)).blk i=some (psA L s1):=by rw [AO,if_pos rfl])
   (have c1:=(jZ i L n ih 7) (σ.AL i (psA L s1)) s1 g0 h1 (by omega) b1;rw [A3] at c1;have h2:=h1.run (SU 7 (GB n));have l2:=PM.le (SU 7 (GB n)) h1.wf;generalize (SU 7 (GB n)).run s1=y at c1 h2 l2 ⊢;obtain ⟨x1,s2⟩:=y;simp only at c1 h2 l2 ⊢;have b2:(σ.AL i (psA L s2)).blk i=some (psA L s2):=(by rw [AO,if_pos rfl]);obtain ⟨k0,n0,a0⟩:=x1;simp only [teA,TE.A2,AD,AG] at c1 ⊢)
   (repeat' (first|refine Run.ct rfl ?_|((first|refine Run.reg mixed ?_|refine Run.AJ ?_|refine Run.A9 BJ (AM.le_refl _) ?_|(refine AI.upd c0 ?_)|(refine AI.upd c1 ?_)|refine AI.det (hpk) ?_|refine AI.det (f1) ?_|refine AI.det (f2) ?_|refine AI.det (f3) ?_|(refine AP rfl (fun h=>?_) (fun h=>?_)<;>try (cases h;done)))<;>try simp -implicitDefEqProofs only [hk1,hk2,go_sem])|(refine ⟨fun h=>?_,fun h=>?_⟩<;>first|(cases h;done)|try simp only [h])|fail))
  |false=>
  have f4:=DG h0 _ σ b0 t4
  cases t5:s0.hd.text==[114,101,102] with
  |true=>
   simp only [if_true,if_false,A1]
   (have c0:=DH h0 [114,101,102] σ b0 t5;have h1:=h0.adv (t:=[114,101,102]) (by decide) t5;have l1:=BP h0.wf;generalize s0.adv=s1 at c0 h1 l1 ⊢;have b1:(σ.AL i (psA L s1)).blk i=some (psA L s1):=by rw [AO,if_pos rfl])
   (have c1:=(jZ i L n ih 8) (σ.AL i (psA L s1)) s1 g0 h1 (by omega) b1;rw [A3] at c1;have h2:=h1.run (SU 8 (GB n));have l2:=PM.le (SU 8 (GB n)) h1.wf;generalize (SU 8 (GB n)).run s1=y at c1 h2 l2 ⊢;obtain ⟨x1,s2⟩:=y;simp only at c1 h2 l2 ⊢;have b2:(σ.AL i (psA L s2)).blk i=some (psA L s2):=(by rw [AO,if_pos rfl]);obtain ⟨k0,n0,a0⟩:=x1;simp only [teA,TE.A2,AD,AG] at c1 ⊢)
   (repeat' (first|refine Run.ct rfl ?_|((first|refine Run.reg mixed ?_|refine Run.AJ ?_|refine Run.A9 BJ (AM.le_refl _) ?_|(refine AI.upd c0 ?_)|(refine AI.upd c1 ?_)|refine AI.det (hpk) ?_|refine AI.det (f1) ?_|refine AI.det (f2) ?_|refine AI.det (f3) ?_|refine AI.det (f4) ?_|(refine AP rfl (fun h=>?_) (fun h=>?_)<;>try (cases h;done)))<;>try simp -implicitDefEqProofs only [hk1,hk2,go_sem])|(refine ⟨fun h=>?_,fun h=>?_⟩<;>first|(cases h;done)|try simp only [h])|fail))
  |false=>
  have f5:=DG h0 _ σ b0 t5
  cases t6:s0.hd.text==[40] with
  |true=>
   simp only [if_true,if_false,A1,run_bind,run_pure,teA,TE.A2,AD,AG]
   (have c0:=DH h0 [40] σ b0 t6;have h1:=h0.adv (t:=[40]) (by decide) t6;have l1:=BP h0.wf;generalize s0.adv=s1 at c0 h1 l1 ⊢;have b1:(σ.AL i (psA L s1)).blk i=some (psA L s1):=by rw [AO,if_pos rfl])
   (have c1:=ih (σ.AL i (psA L s1)) s1 g0 h1 (by omega) b1;rw [A3] at c1;have h2:=h1.run (GB n);have l2:=PM.le (GB n) h1.wf;generalize (GB n).run s1=y at c1 h2 l2 ⊢;obtain ⟨x1,s2⟩:=y;simp only at c1 h2 l2 ⊢;have b2:(σ.AL i (psA L s2)).blk i=some (psA L s2):=(by rw [AO,if_pos rfl]);obtain ⟨k0,n0,a0⟩:=x1;simp only [teA,TE.A2,AD,AG] at c1 ⊢)
   (have c2:=(DJ i L n [44] (by decide)) (σ.AL i (psA L s2)) s2 g0 h2 (by omega) b2;rw [A3] at c2;have h3:=h2.run (PM.exp [44] (by decide));have l3:=PM.le (PM.exp [44] (by decide)) h2.wf;generalize (PM.exp [44] (by decide)).run s2=y at c2 h3 l3 ⊢;obtain ⟨x2,s3⟩:=y;simp only at c2 h3 l3 ⊢;have b3:(σ.AL i (psA L s3)).blk i=some (psA L s3):=(by rw [AO,if_pos rfl]))
   (have d3:=fun tk:Nat=>(Ee i L n Xw ih).pc ((σ.AL i (psA L s3)).D4 tk) s3 g0 h3 (by omega) (by rw [GK];exact b3);have c3:=(Ee i L n Xw ih).pc (σ.AL i (psA L s3)) s3 g0 h3 (by omega) b3;rw [A3] at c3;have h4:=h3.run (listed (GB n));have l4:=PM.le (listed (GB n)) h3.wf;have n3:=QR (read:=GB n) h3.wf;generalize (listed (GB n)).run s3=y at c3 d3 h4 l4 n3 ⊢;obtain ⟨x3,s4⟩:=y;simp only at c3 d3 h4 l4 n3 ⊢;have q3:=h0.suf.length_le;have q3':=h0.len)
   (repeat' (first|refine Run.ct rfl ?_|((first|refine Run.reg mixed ?_|refine Run.AJ ?_|(refine AI.upd c0 ?_)|(refine AI.upd c1 ?_)|(refine AI.upd c2 ?_)|refine AI.det (hpk) ?_|refine AI.det (f1) ?_|refine AI.det (f2) ?_|refine AI.det (f3) ?_|refine AI.det (f4) ?_|refine AI.det (f5) ?_|(refine AP rfl (fun h=>?_) (fun h=>?_)<;>try (cases h;done)))<;>try simp -implicitDefEqProofs only [hk1,hk2,go_sem])|(refine ⟨fun h=>?_,fun h=>?_⟩<;>first|(cases h;done)|try simp only [h])|fail))
   refine Run.SZ mixed ?_;simp -implicitDefEqProofs only [go_sem]
   refine ⟨?_,?_⟩
   · refine Ia.own rfl (by decide) (fun tk htk=>?_);simp -implicitDefEqProofs only [go_sem]
     refine AI.upd (d3 tk) ?_;simp -implicitDefEqProofs only [go_sem]
     (apply LS.tok (LS.uC htk s4);rfl;exact (N1 _ _ TE.hJ);(simp only [AF,AE,AH];omega);decide;intro v2 τ2 ho);simp -implicitDefEqProofs only [ho.own.BQ,ho.own.Av,ho.own.cells,ho.own.cell,ho.own.plain,ho.own.dv,if_true,go_sem]
     (repeat' (first|refine Run.ct rfl ?_|((first|refine Run.reg mixed ?_|refine Run.AJ ?_|(refine Run.A9 BJ ho.le ?_)|(refine AP rfl (fun h=>?_) (fun h=>?_)<;>try (cases h;done)))<;>try simp -implicitDefEqProofs only [ho.own.BQ,ho.own.Av,ho.own.cells,ho.own.cell,ho.own.plain,ho.own.dv,if_true,go_sem])|(refine ⟨fun h=>?_,fun h=>?_⟩<;>first|(cases h;done)|try simp only [h])|fail))
   · refine AI.upd c3 ?_;simp -implicitDefEqProofs only [go_sem]
     refine Ia.own rfl (by decide) (fun tk htk=>?_);simp -implicitDefEqProofs only [go_sem]
     (apply LS.tok (LS.uB htk);rfl;exact (N1 _ _ TE.hJ);(simp only [AF,AE,AH];omega);decide;intro v2 τ2 ho);simp -implicitDefEqProofs only [ho.own.BQ,ho.own.Av,ho.own.cells,ho.own.cell,ho.own.plain,ho.own.dv,if_true,go_sem]
     (repeat' (first|refine Run.ct rfl ?_|((first|refine Run.reg mixed ?_|refine Run.AJ ?_|(refine Run.A9 BJ ho.le ?_)|(refine AP rfl (fun h=>?_) (fun h=>?_)<;>try (cases h;done)))<;>try simp -implicitDefEqProofs only [ho.own.BQ,ho.own.Av,ho.own.cells,ho.own.cell,ho.own.plain,ho.own.dv,if_true,go_sem])|(refine ⟨fun h=>?_,fun h=>?_⟩<;>first|(cases h;done)|try simp only [h])|fail))
  |false=>
  have f6:=DG h0 _ σ b0 t6
  cases t7:s0.hd.text==[102,110] with
  |true=>
   simp only [if_true,if_false,A1,run_bind,run_pure,teA,TE.A2,AD,AG]
   (have c0:=DH h0 [102,110] σ b0 t7;have h1:=h0.adv (t:=[102,110]) (by decide) t7;have l1:=BP h0.wf;generalize s0.adv=s1 at c0 h1 l1 ⊢;have b1:(σ.AL i (psA L s1)).blk i=some (psA L s1):=by rw [AO,if_pos rfl])
   (have c1:=(DJ i L n [40] (by decide)) (σ.AL i (psA L s1)) s1 g0 h1 (by omega) b1;rw [A3] at c1;have h2:=h1.run (PM.exp [40] (by decide));have l2:=PM.le (PM.exp [40] (by decide)) h1.wf;generalize (PM.exp [40] (by decide)).run s1=y at c1 h2 l2 ⊢;obtain ⟨x1,s2⟩:=y;simp only at c1 h2 l2 ⊢;have b2:(σ.AL i (psA L s2)).blk i=some (psA L s2):=(by rw [AO,if_pos rfl]))
   have c2:=Pq i L n Xw ih (σ.AL i (psA L s2)) s2 g0 h2 (by omega) b2
   rw [A3] at c2
   have h3:=h2.run (closed (GB n))
   have l3:=PM.le (closed (GB n)) h2.wf
   have n2:=UG (read:=GB n) h2.wf
   have q2:=h0.suf.length_le
   have q3:=h0.len
   generalize (closed (GB n)).run s2=y at c2 h3 l3 n2 ⊢
   obtain ⟨x2,s3⟩:=y
   simp only at c2 h3 l3 n2 ⊢
   (repeat' (first|refine Run.ct rfl ?_|((first|refine Run.reg mixed ?_|refine Run.AJ ?_|(refine AI.upd c0 ?_)|(refine AI.upd c1 ?_)|(refine AI.mk rfl c2 ?_;intro v1 τ1 ho1)|refine AI.det (hpk) ?_|refine AI.det (f1) ?_|refine AI.det (f2) ?_|refine AI.det (f3) ?_|refine AI.det (f4) ?_|refine AI.det (f5) ?_|refine AI.det (f6) ?_|(refine AP rfl (fun h=>?_) (fun h=>?_)<;>try (cases h;done)))<;>try simp -implicitDefEqProofs only [hk1,hk2,go_sem])|(refine ⟨fun h=>?_,fun h=>?_⟩<;>first|(cases h;done)|try simp only [h])|fail))
   have hl1:=LS.of ho1
   have e3:=UH h3 [45,62] (by decide) τ1 hl1.blk
   have hl2:=hl1.step ((PM.exp [45,62] (by decide)).run s3).2
   have h4:=h3.run (PM.exp [45,62] (by decide))
   have l4:=PM.le (PM.exp [45,62] (by decide)) h3.wf
   generalize (PM.exp [45,62] (by decide)).run s3=y at e3 hl2 h4 l4 ⊢
   obtain ⟨x3,s4⟩:=y
   simp only at e3 hl2 h4 l4 ⊢
   have c4:=ih (τ1.AL i (psA L s4)) s4 (hl1.gt g0) h4 (by omega) hl2.blk
   rw [A3] at c4
   have hl3:=hl1.step ((GB n).run s4).2
   generalize (GB n).run s4=y at c4 hl3 ⊢
   obtain ⟨x4,s5⟩:=y
   obtain ⟨k0,n0,a0⟩:=x4
   simp only [teA,TE.A2,AD,AG] at c4 hl3 ⊢
   (repeat' (first|refine Run.ct rfl ?_|((first|refine Run.reg mixed ?_|refine Run.AJ ?_|(refine AI.upd e3 ?_)|(refine AI.upd c4 ?_)|(refine AP rfl (fun h=>?_) (fun h=>?_)<;>try (cases h;done)))<;>try simp -implicitDefEqProofs only [ho1.BQ,go_sem])|(refine ⟨fun h=>?_,fun h=>?_⟩<;>first|(cases h;done)|try simp only [h])|fail))
   refine hl3.tok rfl (by simp) (by simp;omega) (by decide) (fun v2 τ2 ho=>?_);simp -implicitDefEqProofs only [ho.own.BQ,ho.own.Av,ho.own.cells,ho.own.cell,ho.own.plain,ho.own.dv,if_true,go_sem]
   (repeat' (first|refine Run.ct rfl ?_|((first|refine Run.reg mixed ?_|refine Run.AJ ?_|(refine Run.A9 BJ ho.le ?_)|(refine AP rfl (fun h=>?_) (fun h=>?_)<;>try (cases h;done)))<;>try simp -implicitDefEqProofs only [ho.own.BQ,ho.own.Av,ho.own.cells,ho.own.cell,ho.own.plain,ho.own.dv,if_true,Bn,AD,AG,TE.A2,go_sem])|(refine ⟨fun h=>?_,fun h=>?_⟩<;>first|(cases h;done)|try simp only [h])|fail))
  |false=>
  have f7:=DG h0 _ σ b0 t7
  simp only [if_false,A1,rU,teA,TE.A2,AD,AG]
  (repeat' (first|refine Run.ct rfl ?_|((first|refine Run.reg mixed ?_|refine Run.AJ ?_|refine Run.A9 BJ (AM.le_refl _) ?_|(refine AI.upd (VA h0 σ b0) ?_)|refine AI.det (hpk) ?_|refine AI.det (f1) ?_|refine AI.det (f2) ?_|refine AI.det (f3) ?_|refine AI.det (f4) ?_|refine AI.det (f5) ?_|refine AI.det (f6) ?_|refine AI.det (f7) ?_|(refine AP rfl (fun h=>?_) (fun h=>?_)<;>try (cases h;done)))<;>try simp -implicitDefEqProofs only [hk1,hk2,go_sem])|(refine ⟨fun h=>?_,fun h=>?_⟩<;>first|(cases h;done)|try simp only [h])|fail))
end Go.Ab
namespace Go.Ab
open Go.Proofs
end Go.Ab
namespace Go.Ab
open Go.Proofs
theorem Px {α:Type} {p:α→Bool} {l:List α} {i:Nat} {x:α} (h:∀y∈l.take i,p y=false) (hx:l[i]?=some x) (hp:p x=true):l.findIdx? p=some i:=by
 rw [List.findIdx?_eq_some_iff_getElem]
 obtain ⟨hl,he⟩:=Aa.1 hx
 refine ⟨hl,by rw [he];exact hp,fun j hj=>?_⟩
 rw [h (l[j]'(by omega)) (List.mem_take_iff_getElem.2 ⟨j,by omega,rfl⟩)];simp
theorem Py {α:Type} {p:α→Bool} {l:List α} (h:∀y∈l,p y=false):l.findIdx? p=none:=by
 rw [List.findIdx?_eq_none_iff];exact h
theorem XZ {α:Type} {p:α→Bool} {l:List α} {i:Nat} {x:α} (h:∀y∈l.take i,p y=false) (hx:l[i]?=some x) (hp:p x=false):∀y∈l.take (i+1),p y=false:=by
 intro y hy
 rw [Ft hx] at hy
 rcases BN.1 hy with hy|hy
 · exact h y hy
 · simp only [FB] at hy;subst hy;exact hp
theorem XS (o:Option Nat):decide (0≤l9 o)=o.isSome:=by
 cases o<;>simp [l9]
theorem Nz {α:Type} (p:α→Bool) (l:List α):(l.findIdx? p).isSome=l.any p:=by
 rw [List.findIdx?_isSome]
theorem Sz {fid:FuncId} {caps:List AV} (hb:Am Tryz.prog fid=true) (hcp:caps.all AV.Av=true) (p:Str→Bool) (l:List Str) (σ:AM) (hf:∀x∈l,AQ Tryz.prog fid ((.d (.str x))::caps) σ (fun v σ'=>v= .d (.bool (p x))∧σ'=σ)):
 AQ Tryz.prog 154 [.d (.sl (l.map Dt)),.fn fid [] caps] σ (fun v σ'=>v= .d (.int .i64 (l9 (l.findIdx? p)))∧σ'=σ):=by
 refine Nj (by simp) ?_
 rw [Ax]
 refine Run.slot 0 (fun hb0=>?_)
 simp only [Eg,if_true,AV.Dz,AF] at hb0
 (repeat' (first|refine Run.ct rfl ?_|((first|refine Run.reg mixed ?_|refine Run.AJ ?_)<;>try simp -implicitDefEqProofs only [AF,go_sem])|fail))
 refine Run.Bl ?_
 refine Run.Bm ((fun (a0:AV) (a1:AV) (a7:AV)=>fun (i:Nat)=>put 0 a0 (put 1 a1 (put 7 a7 (put 8 (.d (.int .i64 i)) U)))) _ _ _) (fun _=>E) (fun _=>σ) (fun i=>i≤l.length∧∀x∈l.take i,p x=false) (fun i=>l.length - i) ?_ 0 ⟨by simp,by simp⟩
 rintro i ⟨hi,hno⟩ ih
 by_cases hlt:i < l.length
 · obtain ⟨x,hx⟩:=B4 hlt
   have he:=BK (enc:=Dt) hx
   have hw1:IntKind.i64.wrap ((i:Int)+1)=((i+1:Nat):Int):=by rw [Au (by omega) (by omega)];omega
   have hc:=hf x (A6 hx)
   simp only [Dt] at he
   cases hp:p x with
   |true=>
    rw [hp] at hc
    (repeat' (first|refine Run.ct rfl ?_|((first|refine Run.reg mixed ?_|refine Run.AJ ?_|refine Run.A9 FJ (AM.le_refl _) ?_|(refine ⟨fid,[],caps,rfl,hb,AI.det hc ?_ (by simp [hcp,E0,Bu])⟩))<;>try simp -implicitDefEqProofs only [Bk hlt,he,hw1,go_sem])|fail))
    rw [Px hno hx hp];rfl
   |false=>
    rw [hp] at hc
    (repeat' (first|refine Run.ct rfl ?_|((first|refine Run.reg mixed ?_|refine Run.AJ ?_|(refine ⟨fid,[],caps,rfl,hb,AI.det hc ?_ (by simp [hcp,E0,Bu])⟩))<;>try simp -implicitDefEqProofs only [Bk hlt,he,hw1,go_sem])|fail))
    exact ih (i+1) ⟨by omega,XZ hno hx hp⟩ (by omega)
 · (repeat' (first|refine Run.ct rfl ?_|((first|refine Run.reg mixed ?_|refine Run.AJ ?_|refine Run.A9 FJ (AM.le_refl _) ?_)<;>try simp -implicitDefEqProofs only [HQ hlt,go_sem])|fail))
   rw [Ae (by omega)] at hno
   rw [Py hno];rfl
theorem Pj {fid:FuncId} {caps:List AV} (hb:Am Tryz.prog fid=true) (hcp:caps.all AV.Av=true) (p:Str→Bool) (l:List Str) (σ:AM) (hf:∀x∈l,AQ Tryz.prog fid ((.d (.str x))::caps) σ (fun v σ'=>v= .d (.bool (p x))∧σ'=σ)):
 AQ Tryz.prog 108 [.d (.sl (l.map Dt)),.fn fid [] caps] σ (fun v σ'=>v= .d (.bool (l.any p))∧σ'=σ):=by
 refine Lq (by simp) ?_
 rw [Ax]
 (repeat' (first|refine Run.ct rfl ?_|((first|refine Run.reg mixed ?_|refine Run.AJ ?_|refine Run.A9 G0 (AM.le_refl _) ?_|refine AI.det (Sz hb hcp p l σ hf) ?_)<;>try simp -implicitDefEqProofs only [XS,Nz,go_sem])|fail))
theorem Wl {fid:FuncId} {caps:List AV} (hb:Am Tryz.prog fid=true) (hcp:caps.all AV.Av=true) (x:Str) (b:Bool) (j:Nat) (σ:AM) (hj:σ.blk j=some [.fn fid [] caps]) (hf:AQ Tryz.prog fid ((.d (.str x))::caps) σ (fun v σ'=>v= .d (.bool b)∧σ'=σ)):
 AQ Tryz.prog 109 [(.d (.str x)),.gp j 0] σ (fun v σ'=>v= .d (.bool (!b))∧σ'=σ):=by
 refine Qz (by simp) ?_
 rw [Ax]
 (repeat' (first|refine Run.ct rfl ?_|((first|refine Run.reg mixed ?_|refine Run.AJ ?_|refine Run.A9 KI (AM.le_refl _) ?_|(refine ⟨fid,[],caps,rfl,hb,AI.det hf ?_ (by simp [hcp,E0,Bu])⟩))<;>try simp -implicitDefEqProofs only [hj,go_sem])|fail))
theorem Hn {fid:FuncId} {caps:List AV} (hb:Am Tryz.prog fid=true) (hcp:caps.all AV.Av=true) (p:Str→Bool) (l:List Str) (σ:AM) (hf:∀x∈l,∀σ1,σ.le σ1→AQ Tryz.prog fid ((.d (.str x))::caps) σ1 (fun v σ'=>v= .d (.bool (p x))∧σ'=σ1)):
 AQ Tryz.prog 52 [.d (.sl (l.map Dt)),.fn fid [] caps] σ (fun v σ'=>v= .d (.bool (l.all p))∧σ'=σ):=by
 refine TF (by simp) ?_
 rw [Ax]
 (repeat' (first|refine Run.ct rfl ?_|((first|refine Run.reg mixed ?_|refine Run.AJ ?_)<;>try simp -implicitDefEqProofs only [go_sem])|fail))
 intro j hj
 have hle:=FM (cs:=[.fn fid [] caps]) hj
 (repeat' (first|refine Run.ct rfl ?_|((first|refine Run.reg mixed ?_|refine Run.AJ ?_|(refine Run.A9 MN (σ2:=σ) hle ?_)|refine AI.det (Pj (by kernel_rfl) rfl (fun x=>!p x) l _ (fun x hx=>Wl hb hcp x (p x) j _ (by simp only [AO,if_true]) (hf x hx _ hle))) ?_)<;>try simp -implicitDefEqProofs only [go_sem])|fail))
 simp [Ny]
theorem Nf {fid:FuncId} {caps:List AV} (hb:Am Tryz.prog fid=true) (hcp:caps.all AV.Av=true) (p:TE→Bool) (l:List TE) (σ:AM) (hf:∀x∈l,AQ Tryz.prog fid ((teA x)::caps) σ (fun v σ'=>v= .d (.bool (p x))∧σ'=σ)):
 AQ Tryz.prog 179 [.d (.sl (l.map TE.enc)),.fn fid [] caps] σ (fun v σ'=>v= .d (.int .i64 (l9 (l.findIdx? p)))∧σ'=σ):=by
 refine Jl (by simp) ?_
 rw [Ax]
 refine Run.slot 0 (fun hb0=>?_)
 simp only [Eg,if_true,AV.Dz,AF] at hb0
 (repeat' (first|refine Run.ct rfl ?_|((first|refine Run.reg mixed ?_|refine Run.AJ ?_)<;>try simp -implicitDefEqProofs only [AF,go_sem])|fail))
 refine Run.Bl ?_
 refine Run.Bm ((fun (a0:AV) (a1:AV) (a7:AV)=>fun (i:Nat)=>put 0 a0 (put 1 a1 (put 7 a7 (put 8 (.d (.int .i64 i)) U)))) _ _ _) (fun _=>E) (fun _=>σ) (fun i=>i≤l.length∧∀x∈l.take i,p x=false) (fun i=>l.length - i) ?_ 0 ⟨by simp,by simp⟩
 rintro i ⟨hi,hno⟩ ih
 by_cases hlt:i < l.length
 · obtain ⟨x,hx⟩:=B4 hlt
   have he:=BK (enc:=TE.enc) hx
   have hw1:IntKind.i64.wrap ((i:Int)+1)=((i+1:Nat):Int):=by rw [Au (by omega) (by omega)];omega
   have hc:=hf x (A6 hx)
   obtain ⟨k,n,al⟩:=x
   simp only [TE.A2,teA,AD,AG] at he hc
   cases hp:p (.mk k n al) with
   |true=>
    rw [hp] at hc
    (repeat' (first|refine Run.ct rfl ?_|((first|refine Run.reg mixed ?_|refine Run.AJ ?_|refine Run.A9 D5 (AM.le_refl _) ?_|(refine ⟨fid,[],caps,rfl,hb,AI.det hc ?_ (by simp [hcp,E0,Bu])⟩))<;>try simp -implicitDefEqProofs only [Bk hlt,he,hw1,go_sem])|fail))
    rw [Px hno hx hp];rfl
   |false=>
    rw [hp] at hc
    (repeat' (first|refine Run.ct rfl ?_|((first|refine Run.reg mixed ?_|refine Run.AJ ?_|(refine ⟨fid,[],caps,rfl,hb,AI.det hc ?_ (by simp [hcp,E0,Bu])⟩))<;>try simp -implicitDefEqProofs only [Bk hlt,he,hw1,go_sem])|fail))
    exact ih (i+1) ⟨by omega,XZ hno hx hp⟩ (by omega)
 · (repeat' (first|refine Run.ct rfl ?_|((first|refine Run.reg mixed ?_|refine Run.AJ ?_|refine Run.A9 D5 (AM.le_refl _) ?_)<;>try simp -implicitDefEqProofs only [HQ hlt,go_sem])|fail))
   rw [Ae (by omega)] at hno
   rw [Py hno];rfl
theorem Le {fid:FuncId} {caps:List AV} (hb:Am Tryz.prog fid=true) (hcp:caps.all AV.Av=true) (p:TE→Bool) (l:List TE) (σ:AM) (hf:∀x∈l,AQ Tryz.prog fid ((teA x)::caps) σ (fun v σ'=>v= .d (.bool (p x))∧σ'=σ)):
 AQ Tryz.prog 151 [.d (.sl (l.map TE.enc)),.fn fid [] caps] σ (fun v σ'=>v= .d (.bool (l.any p))∧σ'=σ):=by
 refine I1 (by simp) ?_
 rw [Ax]
 (repeat' (first|refine Run.ct rfl ?_|((first|refine Run.reg mixed ?_|refine Run.AJ ?_|refine Run.A9 Em (AM.le_refl _) ?_|refine AI.det (Nf hb hcp p l σ hf) ?_)<;>try simp -implicitDefEqProofs only [XS,Nz,go_sem])|fail))
theorem Qv {fid:FuncId} {caps:List AV} (hb:Am Tryz.prog fid=true) (hcp:caps.all AV.Av=true) (x:TE) (b:Bool) (j:Nat) (σ:AM) (hj:σ.blk j=some [.fn fid [] caps]) (hf:AQ Tryz.prog fid ((teA x)::caps) σ (fun v σ'=>v= .d (.bool b)∧σ'=σ)):
 AQ Tryz.prog 152 [(teA x),.gp j 0] σ (fun v σ'=>v= .d (.bool (!b))∧σ'=σ):=by
 refine M7 (by simp) ?_
 rw [Ax]
 obtain ⟨k,n,al⟩:=x
 simp only [TE.A2,teA,AD,AG] at hf ⊢
 (repeat' (first|refine Run.ct rfl ?_|((first|refine Run.reg mixed ?_|refine Run.AJ ?_|refine Run.A9 Gj (AM.le_refl _) ?_|(refine ⟨fid,[],caps,rfl,hb,AI.det hf ?_ (by simp [hcp,E0,Bu])⟩))<;>try simp -implicitDefEqProofs only [hj,go_sem])|fail))
theorem MF {fid:FuncId} {caps:List AV} (hb:Am Tryz.prog fid=true) (hcp:caps.all AV.Av=true) (p:TE→Bool) (l:List TE) (σ:AM) (hf:∀x∈l,∀σ1,σ.le σ1→AQ Tryz.prog fid ((teA x)::caps) σ1 (fun v σ'=>v= .d (.bool (p x))∧σ'=σ1)):
 AQ Tryz.prog 104 [.d (.sl (l.map TE.enc)),.fn fid [] caps] σ (fun v σ'=>v= .d (.bool (l.all p))∧σ'=σ):=by
 refine Nk (by simp) ?_
 rw [Ax]
 (repeat' (first|refine Run.ct rfl ?_|((first|refine Run.reg mixed ?_|refine Run.AJ ?_)<;>try simp -implicitDefEqProofs only [go_sem])|fail))
 intro j hj
 have hle:=FM (cs:=[.fn fid [] caps]) hj
 (repeat' (first|refine Run.ct rfl ?_|((first|refine Run.reg mixed ?_|refine Run.AJ ?_|(refine Run.A9 Hf (σ2:=σ) hle ?_)|refine AI.det (Le (by kernel_rfl) rfl (fun x=>!p x) l _ (fun x hx=>Qv hb hcp x (p x) j _ (by simp only [AO,if_true]) (hf x hx _ hle))) ?_)<;>try simp -implicitDefEqProofs only [go_sem])|fail))
 simp [Ny]
theorem OP {fid:FuncId} {caps:List AV} (hb:Am Tryz.prog fid=true) (hcp:caps.all AV.Av=true) (p:CE→Bool) (l:List CE) (σ:AM) (hf:∀x∈l,AQ Tryz.prog fid ((ceA x)::caps) σ (fun v σ'=>v= .d (.bool (p x))∧σ'=σ)):
 AQ Tryz.prog 178 [.d (.sl (l.map CE.enc)),.fn fid [] caps] σ (fun v σ'=>v= .d (.int .i64 (l9 (l.findIdx? p)))∧σ'=σ):=by
 refine K6 (by simp) ?_
 rw [Ax]
 refine Run.slot 0 (fun hb0=>?_)
 simp only [Eg,if_true,AV.Dz,AF] at hb0
 (repeat' (first|refine Run.ct rfl ?_|((first|refine Run.reg mixed ?_|refine Run.AJ ?_)<;>try simp -implicitDefEqProofs only [AF,go_sem])|fail))
 refine Run.Bl ?_
 refine Run.Bm ((fun (a0:AV) (a1:AV) (a7:AV)=>fun (i:Nat)=>put 0 a0 (put 1 a1 (put 7 a7 (put 8 (.d (.int .i64 i)) U)))) _ _ _) (fun _=>E) (fun _=>σ) (fun i=>i≤l.length∧∀x∈l.take i,p x=false) (fun i=>l.length - i) ?_ 0 ⟨by simp,by simp⟩
 rintro i ⟨hi,hno⟩ ih
 by_cases hlt:i < l.length
 · obtain ⟨x,hx⟩:=B4 hlt
   have he:=BK (enc:=CE.enc) hx
   have hw1:IntKind.i64.wrap ((i:Int)+1)=((i+1:Nat):Int):=by rw [Au (by omega) (by omega)];omega
   have hc:=hf x (A6 hx)
   obtain ⟨nm,ar⟩:=x
   simp only [CE.enc,ceA,AD,AG] at he hc
   cases hp:p (⟨nm,ar⟩) with
   |true=>
    rw [hp] at hc
    (repeat' (first|refine Run.ct rfl ?_|((first|refine Run.reg mixed ?_|refine Run.AJ ?_|refine Run.A9 Dk (AM.le_refl _) ?_|(refine ⟨fid,[],caps,rfl,hb,AI.det hc ?_ (by simp [hcp,E0,Bu])⟩))<;>try simp -implicitDefEqProofs only [Bk hlt,he,hw1,go_sem])|fail))
    rw [Px hno hx hp];rfl
   |false=>
    rw [hp] at hc
    (repeat' (first|refine Run.ct rfl ?_|((first|refine Run.reg mixed ?_|refine Run.AJ ?_|(refine ⟨fid,[],caps,rfl,hb,AI.det hc ?_ (by simp [hcp,E0,Bu])⟩))<;>try simp -implicitDefEqProofs only [Bk hlt,he,hw1,go_sem])|fail))
    exact ih (i+1) ⟨by omega,XZ hno hx hp⟩ (by omega)
 · (repeat' (first|refine Run.ct rfl ?_|((first|refine Run.reg mixed ?_|refine Run.AJ ?_|refine Run.A9 Dk (AM.le_refl _) ?_)<;>try simp -implicitDefEqProofs only [HQ hlt,go_sem])|fail))
   rw [Ae (by omega)] at hno
   rw [Py hno];rfl
theorem MX {fid:FuncId} {caps:List AV} (hb:Am Tryz.prog fid=true) (hcp:caps.all AV.Av=true) (p:CE→Bool) (l:List CE) (σ:AM) (hf:∀x∈l,AQ Tryz.prog fid ((ceA x)::caps) σ (fun v σ'=>v= .d (.bool (p x))∧σ'=σ)):
 AQ Tryz.prog 149 [.d (.sl (l.map CE.enc)),.fn fid [] caps] σ (fun v σ'=>v= .d (.bool (l.any p))∧σ'=σ):=by
 refine Iy (by simp) ?_
 rw [Ax]
 (repeat' (first|refine Run.ct rfl ?_|((first|refine Run.reg mixed ?_|refine Run.AJ ?_|refine Run.A9 FG (AM.le_refl _) ?_|refine AI.det (OP hb hcp p l σ hf) ?_)<;>try simp -implicitDefEqProofs only [XS,Nz,go_sem])|fail))
theorem Rh {fid:FuncId} {caps:List AV} (hb:Am Tryz.prog fid=true) (hcp:caps.all AV.Av=true) (x:CE) (b:Bool) (j:Nat) (σ:AM) (hj:σ.blk j=some [.fn fid [] caps]) (hf:AQ Tryz.prog fid ((ceA x)::caps) σ (fun v σ'=>v= .d (.bool b)∧σ'=σ)):
 AQ Tryz.prog 150 [(ceA x),.gp j 0] σ (fun v σ'=>v= .d (.bool (!b))∧σ'=σ):=by
 refine NQ (by simp) ?_
 rw [Ax]
 obtain ⟨nm,ar⟩:=x
 simp only [CE.enc,ceA,AD,AG] at hf ⊢
 (repeat' (first|refine Run.ct rfl ?_|((first|refine Run.reg mixed ?_|refine Run.AJ ?_|refine Run.A9 HH (AM.le_refl _) ?_|(refine ⟨fid,[],caps,rfl,hb,AI.det hf ?_ (by simp [hcp,E0,Bu])⟩))<;>try simp -implicitDefEqProofs only [hj,go_sem])|fail))
theorem Tx {fid:FuncId} {caps:List AV} (hb:Am Tryz.prog fid=true) (hcp:caps.all AV.Av=true) (p:CE→Bool) (l:List CE) (σ:AM) (hf:∀x∈l,∀σ1,σ.le σ1→AQ Tryz.prog fid ((ceA x)::caps) σ1 (fun v σ'=>v= .d (.bool (p x))∧σ'=σ1)):
 AQ Tryz.prog 102 [.d (.sl (l.map CE.enc)),.fn fid [] caps] σ (fun v σ'=>v= .d (.bool (l.all p))∧σ'=σ):=by
 refine OW (by simp) ?_
 rw [Ax]
 (repeat' (first|refine Run.ct rfl ?_|((first|refine Run.reg mixed ?_|refine Run.AJ ?_)<;>try simp -implicitDefEqProofs only [go_sem])|fail))
 intro j hj
 have hle:=FM (cs:=[.fn fid [] caps]) hj
 (repeat' (first|refine Run.ct rfl ?_|((first|refine Run.reg mixed ?_|refine Run.AJ ?_|(refine Run.A9 Hz (σ2:=σ) hle ?_)|refine AI.det (MX (by kernel_rfl) rfl (fun x=>!p x) l _ (fun x hx=>Rh hb hcp x (p x) j _ (by simp only [AO,if_true]) (hf x hx _ hle))) ?_)<;>try simp -implicitDefEqProofs only [go_sem])|fail))
 simp [Ny]
theorem Rc {fid:FuncId} {caps:List AV} (hb:Am Tryz.prog fid=true) (hcp:caps.all AV.Av=true) (p:Al→Bool) (l:List Al) (σ:AM) (hf:∀x∈l,AQ Tryz.prog fid ((alA x)::caps) σ (fun v σ'=>v= .d (.bool (p x))∧σ'=σ)):
 AQ Tryz.prog 195 [.d (.sl (l.map Al.enc)),.fn fid [] caps] σ (fun v σ'=>v= .d (.int .i64 (l9 (l.findIdx? p)))∧σ'=σ):=by
 refine NP (by simp) ?_
 rw [Ax]
 refine Run.slot 0 (fun hb0=>?_)
 simp only [Eg,if_true,AV.Dz,AF] at hb0
 (repeat' (first|refine Run.ct rfl ?_|((first|refine Run.reg mixed ?_|refine Run.AJ ?_)<;>try simp -implicitDefEqProofs only [AF,go_sem])|fail))
 refine Run.Bl ?_
 refine Run.Bm ((fun (a0:AV) (a1:AV) (a7:AV)=>fun (i:Nat)=>put 0 a0 (put 1 a1 (put 7 a7 (put 8 (.d (.int .i64 i)) U)))) _ _ _) (fun _=>E) (fun _=>σ) (fun i=>i≤l.length∧∀x∈l.take i,p x=false) (fun i=>l.length - i) ?_ 0 ⟨by simp,by simp⟩
 rintro i ⟨hi,hno⟩ ih
 by_cases hlt:i < l.length
 · obtain ⟨x,hx⟩:=B4 hlt
   have he:=BK (enc:=Al.enc) hx
   have hw1:IntKind.i64.wrap ((i:Int)+1)=((i+1:Nat):Int):=by rw [Au (by omega) (by omega)];omega
   have hc:=hf x (A6 hx)
   obtain ⟨c,vs,o,n,u,ns,ks,al⟩:=x
   simp only [Al.A2,alA,AD,AG] at he hc
   cases hp:p (.mk c vs (.mk o n u ns ks al)) with
   |true=>
    rw [hp] at hc
    (repeat' (first|refine Run.ct rfl ?_|((first|refine Run.reg mixed ?_|refine Run.AJ ?_|refine Run.A9 En (AM.le_refl _) ?_|(refine ⟨fid,[],caps,rfl,hb,AI.det hc ?_ (by simp [hcp,E0,Bu])⟩))<;>try simp -implicitDefEqProofs only [Bk hlt,he,hw1,go_sem])|fail))
    rw [Px hno hx hp];rfl
   |false=>
    rw [hp] at hc
    (repeat' (first|refine Run.ct rfl ?_|((first|refine Run.reg mixed ?_|refine Run.AJ ?_|(refine ⟨fid,[],caps,rfl,hb,AI.det hc ?_ (by simp [hcp,E0,Bu])⟩))<;>try simp -implicitDefEqProofs only [Bk hlt,he,hw1,go_sem])|fail))
    exact ih (i+1) ⟨by omega,XZ hno hx hp⟩ (by omega)
 · (repeat' (first|refine Run.ct rfl ?_|((first|refine Run.reg mixed ?_|refine Run.AJ ?_|refine Run.A9 En (AM.le_refl _) ?_)<;>try simp -implicitDefEqProofs only [HQ hlt,go_sem])|fail))
   rw [Ae (by omega)] at hno
   rw [Py hno];rfl
theorem Oe {fid:FuncId} {caps:List AV} (hb:Am Tryz.prog fid=true) (hcp:caps.all AV.Av=true) (p:Al→Bool) (l:List Al) (σ:AM) (hf:∀x∈l,AQ Tryz.prog fid ((alA x)::caps) σ (fun v σ'=>v= .d (.bool (p x))∧σ'=σ)):
 AQ Tryz.prog 180 [.d (.sl (l.map Al.enc)),.fn fid [] caps] σ (fun v σ'=>v= .d (.bool (l.any p))∧σ'=σ):=by
 refine L1 (by simp) ?_
 rw [Ax]
 (repeat' (first|refine Run.ct rfl ?_|((first|refine Run.reg mixed ?_|refine Run.AJ ?_|refine Run.A9 GH (AM.le_refl _) ?_|refine AI.det (Rc hb hcp p l σ hf) ?_)<;>try simp -implicitDefEqProofs only [XS,Nz,go_sem])|fail))
theorem Va {fid:FuncId} {caps:List AV} (hb:Am Tryz.prog fid=true) (hcp:caps.all AV.Av=true) (x:Al) (b:Bool) (j:Nat) (σ:AM) (hj:σ.blk j=some [.fn fid [] caps]) (hf:AQ Tryz.prog fid ((alA x)::caps) σ (fun v σ'=>v= .d (.bool b)∧σ'=σ)):
 AQ Tryz.prog 181 [(alA x),.gp j 0] σ (fun v σ'=>v= .d (.bool (!b))∧σ'=σ):=by
 refine QC (by simp) ?_
 rw [Ax]
 obtain ⟨c,vs,o,n,u,ns,ks,al⟩:=x
 simp only [Al.A2,alA,AD,AG] at hf ⊢
 (repeat' (first|refine Run.ct rfl ?_|((first|refine Run.reg mixed ?_|refine Run.AJ ?_|refine Run.A9 JU (AM.le_refl _) ?_|(refine ⟨fid,[],caps,rfl,hb,AI.det hf ?_ (by simp [hcp,E0,Bu])⟩))<;>try simp -implicitDefEqProofs only [hj,go_sem])|fail))
theorem Xd {fid:FuncId} {caps:List AV} (hb:Am Tryz.prog fid=true) (hcp:caps.all AV.Av=true) (p:Al→Bool) (l:List Al) (σ:AM) (hf:∀x∈l,∀σ1,σ.le σ1→AQ Tryz.prog fid ((alA x)::caps) σ1 (fun v σ'=>v= .d (.bool (p x))∧σ'=σ1)):
 AQ Tryz.prog 158 [.d (.sl (l.map Al.enc)),.fn fid [] caps] σ (fun v σ'=>v= .d (.bool (l.all p))∧σ'=σ):=by
 refine Ry (by simp) ?_
 rw [Ax]
 (repeat' (first|refine Run.ct rfl ?_|((first|refine Run.reg mixed ?_|refine Run.AJ ?_)<;>try simp -implicitDefEqProofs only [go_sem])|fail))
 intro j hj
 have hle:=FM (cs:=[.fn fid [] caps]) hj
 (repeat' (first|refine Run.ct rfl ?_|((first|refine Run.reg mixed ?_|refine Run.AJ ?_|(refine Run.A9 LQ (σ2:=σ) hle ?_)|refine AI.det (Oe (by kernel_rfl) rfl (fun x=>!p x) l _ (fun x hx=>Va hb hcp x (p x) j _ (by simp only [AO,if_true]) (hf x hx _ hle))) ?_)<;>try simp -implicitDefEqProofs only [go_sem])|fail))
 simp [Ny]
end Go.Ab
