/- The parser: expressions of the highest level. The printer: text, bind, types. Conditions: none. -/
import Derived.Test.YtifplkldbbcldaaGreatDoorXUc
set_option linter.unusedSimpArgs false
set_option linter.unusedVariables false
set_option maxRecDepth 4000
set_option maxHeartbeats 8000000
open List renaming map_cons→AG,map_nil→AH,length_map→AE,length_cons→AB,length_nil→AD,all_eq_true→A4,length_append→AA,append_assoc→AS,map_append→Bg,dropLast_concat→Rq,getLastD_concat→Rr,length_singleton→Qr,take_left→G1
open Bool renaming false_eq_true→AU,and_eq_true→AM
open Nat renaming add_assoc→Mu,zero_add→B9
namespace Go.Ab
open Go.Proofs
theorem wT {n:Int} (h0: -9223372036854775808≤n) (h1:n≤9223372036854775807):IntKind.i64.wrap n=n:=by
 rcases Int.le_total 0 n with h|h
 · exact Av h h1
 · unfold IntKind.wrap
   simp only [IntKind.signed,IntKind.bits]
   rcases Int.lt_or_le n 0 with h2|h2
   · have e:n % (2 ^ 64:Int)=n+18446744073709551616:=by omega
     simp only [e]
     rw [if_pos (by simp;omega)]
     omega
   · have:n=0:=by omega
     subst this;rfl
theorem neg_num {x:Int} (h:0≤x∧x≤1000000):IntKind.i64.wrap (0 - x)=-x:=by rw [wT (by omega) (by omega)];omega
theorem vB {L:List Tok} {s:PSt} (hN:NOk L) (hs:POk L s):0≤(Jp.run s).1∧(Jp.run s).1≤1000000:=oK (jR hN hs)
theorem zI (i:Nat) {L:List Tok} (hN:NOk L) (n:Nat):PC 212 [.gp i 0] i L n cO exA:=by
 intro σ s0 g0 h0 l0 b0
 refine S4 (by simp) ?_
 rw [Ax]
 simp only [cO,run_bind,run_pure,exA,exN,Ex.A3,AG,AH]
 (have c0:=(DN i L n [40] (by decide)) σ s0 g0 h0 (by omega) b0;have h1:=h0.run (PM.exp [40] (by decide));have l1:=PM.le (PM.exp [40] (by decide)) h0.wf;generalize (PM.exp [40] (by decide)).run s0=y at c0 h1 l1 ⊢;obtain ⟨x0,s1⟩:=y;simp only at c0 h1 l1 ⊢;have b1:(σ.AK i (psA L s1)).blk i=some (psA L s1):=(by rw [AO,if_pos rfl]))
 cases t1:s1.hd.text==[45] with
 |true=>
  have hr:(E0 [45] (Jp.map fun n=>-n) Jp).run s1=(-(Jp.run s1.adv).1,(Jp.run s1.adv).2):=if_pos t1
  rw [hr]
  simp only
  (have c1:=DM h1 [45] (σ.AK i (psA L s1)) b1 t1;rw [A2] at c1;have h2:=h1.adv (t:=[45]) (by decide) t1;have l2:=B0 h1.wf;generalize s1.adv=s2 at c1 h2 l2 ⊢;have b2:(σ.AK i (psA L s2)).blk i=some (psA L s2):=by rw [AO,if_pos rfl])
  have hk:=vB hN h2
  (have c2:=(eN i hN n) (σ.AK i (psA L s2)) s2 g0 h2 (by omega) b2;rw [A2] at c2;have h3:=h2.run (Jp);have l3:=PM.le (Jp) h2.wf;generalize (Jp).run s2=y at c2 h3 l3 hk ⊢;obtain ⟨x2,s3⟩:=y;simp only at c2 h3 l3 hk ⊢;have b3:(σ.AK i (psA L s3)).blk i=some (psA L s3):=(by rw [AO,if_pos rfl]))
  have hng:=neg_num hk
  (have c3:=(DN i L n [41] (by decide)) (σ.AK i (psA L s3)) s3 g0 h3 (by omega) b3;rw [A2] at c3;have h4:=h3.run (PM.exp [41] (by decide));have l4:=PM.le (PM.exp [41] (by decide)) h3.wf;generalize (PM.exp [41] (by decide)).run s3=y at c3 h4 l4 ⊢;obtain ⟨x3,s4⟩:=y;simp only at c3 h4 l4 ⊢;have b4:(σ.AK i (psA L s4)).blk i=some (psA L s4):=(by rw [AO,if_pos rfl]))
  (repeat' (first|refine Run.ct rfl ?_|((first|refine Run.reg mixed ?_|refine Run.AJ ?_|refine Run.A9 HU (AN.le_refl _) ?_|(refine AI.upd c0 ?_)|(refine AI.upd c1 ?_)|(refine AI.upd c2 ?_)|(refine AI.upd c3 ?_))<;>try simp -implicitDefEqProofs only [hng,go_sem])|fail))
 |false=>
  have hr:(E0 [45] (Jp.map fun n=>-n) Jp).run s1=Jp.run s1:=if_neg (by rw [t1];decide)
  rw [hr]
  have f1:=DL h1 [45] (σ.AK i (psA L s1)) b1 t1
  (have c1:=(eN i hN n) (σ.AK i (psA L s1)) s1 g0 h1 (by omega) b1;rw [A2] at c1;have h2:=h1.run (Jp);have l2:=PM.le (Jp) h1.wf;generalize (Jp).run s1=y at c1 h2 l2 ⊢;obtain ⟨x1,s2⟩:=y;simp only at c1 h2 l2 ⊢;have b2:(σ.AK i (psA L s2)).blk i=some (psA L s2):=(by rw [AO,if_pos rfl]))
  (have c2:=(DN i L n [41] (by decide)) (σ.AK i (psA L s2)) s2 g0 h2 (by omega) b2;rw [A2] at c2;have h3:=h2.run (PM.exp [41] (by decide));have l3:=PM.le (PM.exp [41] (by decide)) h2.wf;generalize (PM.exp [41] (by decide)).run s2=y at c2 h3 l3 ⊢;obtain ⟨x2,s3⟩:=y;simp only at c2 h3 l3 ⊢;have b3:(σ.AK i (psA L s3)).blk i=some (psA L s3):=(by rw [AO,if_pos rfl]))
  (repeat' (first|refine Run.ct rfl ?_|((first|refine Run.reg mixed ?_|refine Run.AJ ?_|refine Run.A9 HU (AN.le_refl _) ?_|(refine AI.upd c0 ?_)|(refine AI.upd c1 ?_)|(refine AI.upd c2 ?_)|refine AI.det (f1) ?_)<;>try simp -implicitDefEqProofs only [go_sem])|fail))
theorem Xj:Aw Tryz.prog 131=true:=by kernel_rfl
theorem Ex.yA (e:Ex):e.enc.length=6:=by cases e;rw [Ex.A3];rfl
theorem ACA (i:Nat) (L:List Tok) (n:Nat) {E:PM Ex} (hE:PC 131 [.gp i 0] i L n E exA):PC 211 [.gp i 0] i L n (eQ E) exA:=by
 intro σ s0 g0 h0 l0 b0
 refine Me (by simp) ?_
 rw [Ax]
 simp only [eQ,Hb]
 cases t0:s0.hd.text==[41] with
 |true=>
  simp only [if_true,run_pure,exA,exN,Ex.A3,AG,AH]
  (have c0:=DM h0 [41] σ b0 t0;have h1:=h0.adv (t:=[41]) (by decide) t0;have l1:=B0 h0.wf;generalize s0.adv=s1 at c0 h1 l1 ⊢;have b1:(σ.AK i (psA L s1)).blk i=some (psA L s1):=by rw [AO,if_pos rfl])
  (repeat' (first|refine Run.ct rfl ?_|((first|refine Run.reg mixed ?_|refine Run.AJ ?_|refine Run.A9 CO (AN.le_refl _) ?_|(refine AI.upd c0 ?_))<;>try simp -implicitDefEqProofs only [go_sem])|fail))
 |false=>
  have f0:=DL h0 _ σ b0 t0
  simp only [if_false,AU,run_bind,Hb]
  (have c0:=hE σ s0 g0 h0 (by omega) b0;have h1:=h0.run (E);have l1:=PM.le (E) h0.wf;generalize (E).run s0=y at c0 h1 l1 ⊢;obtain ⟨x0,s1⟩:=y;simp only at c0 h1 l1 ⊢;have b1:(σ.AK i (psA L s1)).blk i=some (psA L s1):=(by rw [AO,if_pos rfl]);obtain ⟨o0,n0,u0,ns0,ks0,al0⟩:=x0;simp only [exA,Ex.A3,AG,AH] at c0 ⊢)
  cases t1:s1.hd.text==[41] with
  |true=>
   simp only [if_true,run_pure,exA,Ex.A3,AG,AH]
   (have c1:=DM h1 [41] (σ.AK i (psA L s1)) b1 t1;rw [A2] at c1;have h2:=h1.adv (t:=[41]) (by decide) t1;have l2:=B0 h1.wf;generalize s1.adv=s2 at c1 h2 l2 ⊢;have b2:(σ.AK i (psA L s2)).blk i=some (psA L s2):=by rw [AO,if_pos rfl])
   (repeat' (first|refine Run.ct rfl ?_|((first|refine Run.reg mixed ?_|refine Run.AJ ?_|refine Run.A9 CO (AN.le_refl _) ?_|(refine AI.upd c0 ?_)|(refine AI.upd c1 ?_)|refine AI.det (f0) ?_)<;>try simp -implicitDefEqProofs only [go_sem])|fail))
  |false=>
   have f1:=DL h1 _ (σ.AK i (psA L s1)) b1 t1
   simp only [if_false,AU,run_bind,run_pure,exA,exN,Ex.A3,AG,AH]
   (have c1:=(DN i L n [44] (by decide)) (σ.AK i (psA L s1)) s1 g0 h1 (by omega) b1;rw [A2] at c1;have h2:=h1.run (PM.exp [44] (by decide));have l2:=PM.le (PM.exp [44] (by decide)) h1.wf;generalize (PM.exp [44] (by decide)).run s1=y at c1 h2 l2 ⊢;obtain ⟨x1,s2⟩:=y;simp only at c1 h2 l2 ⊢;have b2:(σ.AK i (psA L s2)).blk i=some (psA L s2):=(by rw [AO,if_pos rfl]))
   (have d2:=fun tk:Nat=>(GX i L n Xj hE).pc ((σ.AK i (psA L s2)).Da tk) s2 g0 h2 (by omega) (by rw [GO];exact b2);have c2:=(GX i L n Xj hE).pc (σ.AK i (psA L s2)) s2 g0 h2 (by omega) b2;rw [A2] at c2;have h3:=h2.run (listed E);have l3:=PM.le (listed E) h2.wf;have n2:=Q1 (read:=E) h2.wf;generalize (listed E).run s2=y at c2 d2 h3 l3 n2 ⊢;obtain ⟨x2,s3⟩:=y;simp only at c2 d2 h3 l3 n2 ⊢;have q2:=h0.suf.length_le;have q2':=h0.len)
   (repeat' (first|refine Run.ct rfl ?_|((first|refine Run.reg mixed ?_|refine Run.AJ ?_|(refine AI.upd c0 ?_)|(refine AI.upd c1 ?_)|refine AI.det (f0) ?_|refine AI.det (f1) ?_)<;>try simp -implicitDefEqProofs only [go_sem])|fail))
   refine Run.FA mixed ?_;simp -implicitDefEqProofs only [go_sem]
   refine ⟨?_,?_⟩
   · refine Ia.own rfl (by decide) (fun tk htk=>?_);simp -implicitDefEqProofs only [go_sem]
     refine AI.upd (d2 tk) ?_;simp -implicitDefEqProofs only [go_sem]
     (apply LS.tok (LS.yH htk s3);rfl;exact (N1 _ _ Ex.yA);(simp only [AE,AB,AD];omega);decide;intro v2 τ2 ho);simp -implicitDefEqProofs only [ho.own.BJ,ho.own.As,ho.own.cells,ho.own.cell,ho.own.plain,ho.own.dv,if_true,go_sem]
     (repeat' (first|refine Run.ct rfl ?_|((first|refine Run.reg mixed ?_|refine Run.AJ ?_|(refine Run.A9 CO ho.le ?_))<;>try simp -implicitDefEqProofs only [ho.own.BJ,ho.own.As,ho.own.cells,ho.own.cell,ho.own.plain,ho.own.dv,if_true,go_sem])|fail))
   · refine AI.upd c2 ?_;simp -implicitDefEqProofs only [go_sem]
     refine Ia.own rfl (by decide) (fun tk htk=>?_);simp -implicitDefEqProofs only [go_sem]
     (apply LS.tok (LS.yG htk);rfl;exact (N1 _ _ Ex.yA);(simp only [AE,AB,AD];omega);decide;intro v2 τ2 ho);simp -implicitDefEqProofs only [ho.own.BJ,ho.own.As,ho.own.cells,ho.own.cell,ho.own.plain,ho.own.dv,if_true,go_sem]
     (repeat' (first|refine Run.ct rfl ?_|((first|refine Run.reg mixed ?_|refine Run.AJ ?_|(refine Run.A9 CO ho.le ?_))<;>try simp -implicitDefEqProofs only [ho.own.BJ,ho.own.As,ho.own.cells,ho.own.cell,ho.own.plain,ho.own.dv,if_true,go_sem])|fail))
theorem vO (k:Int):prT k≠[]:=by
 unfold prT
 repeat' split
 all_goals simp
def cR (E:PM Ex):Nat→Nat→PM Ex
 |0,_=>.fail (exN 0 0 [])
 |n+1,k=>.acc (prT (k:Int)) (vO (k:Int)) ((Ts E (Hk (k:Int))).bind fun l=>.pure (exN 14 (k:Int) l)) (cR E n (k+1))
theorem rL (E:PM Ex) (s:PSt):(E0 [110,101,119] ((Sh E).bind fun l=>.pure (exN 14 1 l)) <|
 E0 [103,101,116] ((Sh E).bind fun l=>.pure (exN 14 2 l)) <|
 E0 [115,101,116] ((eP E).bind fun l=>.pure (exN 14 3 l)) <|
 E0 [108,101,110] ((O7 E).bind fun l=>.pure (exN 14 4 l)) <|
 E0 [114,101,102] ((O7 E).bind fun l=>.pure (exN 14 5 l)) <|
 E0 [114,101,97,100] ((O7 E).bind fun l=>.pure (exN 14 6 l)) <|
 E0 [119,114,105,116,101] ((Sh E).bind fun l=>.pure (exN 14 7 l)) <|
 .fail (exN 0 0 [])).run s=(cR E 7 1).run s:=rfl
theorem yZ {k:Nat} (h1:1≤k) (h2:k≤7):vR (k:Int)=prT (k:Int):=by
 have hk:k=1∨k=2∨k=3∨k=4∨k=5∨k=6∨k=7:=by omega
 rcases hk with rfl|rfl|rfl|rfl|rfl|rfl|rfl<;>rfl
theorem vP {k:Nat} (h1:1≤k) (h2:k≤7):1≤Hk (k:Int)∧Hk (k:Int)≤3:=by
 have hk:k=1∨k=2∨k=3∨k=4∨k=5∨k=6∨k=7:=by omega
 rcases hk with rfl|rfl|rfl|rfl|rfl|rfl|rfl<;>decide
theorem AAJ {k:Nat} (h:k≤7):decide ((k:Int)≤7)=true:=by simp;omega
theorem ADT {k:Nat} (h:¬k≤7):decide ((k:Int)≤7)=false:=by simp;omega
theorem XF (k:Nat) (h1:1≤k) (h2:k≤7) (σ:AN):AQ Tryz.prog 147 [.d (.int .i64 (k:Int))] σ (fun v σ'=>v= .tup [.d (.str (prT (k:Int))),.d (.int .i64 ((Hk (k:Int):Nat):Int))]∧σ'=σ):=by
 have:=Vk (k:Int) σ
 rwa [yZ h1 h2] at this
set_option maxHeartbeats 4000000 in
theorem y0 (i:Nat) {L:List Tok} (hN:NOk L) (n:Nat) {E:PM Ex} (hE:PC 131 [.gp i 0] i L n E exA):PC 207 [.gp i 0] i L (n+1) (Iq E) exA:=by
 intro σ s0 g0 h0 l0 b0
 refine S1 (by simp) ?_
 rw [Ax]
 have hpk:=Q5 h0 σ b0
 rw [Iq]
 simp only [jH,Hb]
 cases hk3:s0.hd.kind==3 with
 |true=>
  simp only [if_true,run_bind,run_pure,exA,exN,Ex.A3,AG,AH]
  (have c0:=(eN i hN (n+1)) σ s0 g0 h0 (by omega) b0;have h1:=h0.run (Jp);have l1:=PM.le (Jp) h0.wf;generalize (Jp).run s0=y at c0 h1 l1 ⊢;obtain ⟨x0,s1⟩:=y;simp only at c0 h1 l1 ⊢;have b1:(σ.AK i (psA L s1)).blk i=some (psA L s1):=(by rw [AO,if_pos rfl]))
  (repeat' (first|refine Run.ct rfl ?_|((first|refine Run.reg mixed ?_|refine Run.AJ ?_|refine Run.A9 BS (AN.le_refl _) ?_|(refine AI.upd c0 ?_)|refine AI.det (hpk) ?_)<;>try simp -implicitDefEqProofs only [hk3,go_sem])|fail))
 |false=>
 cases hk1:s0.hd.kind==1 with
 |true=>
  simp only [if_true,if_false,AU,run_bind,run_pure,exA,exN,Ex.A3,AG,AH]
  (have c0:=(Q3 i L (n+1)) σ s0 g0 h0 (by omega) b0;have h1:=h0.run (Fp);have l1:=PM.le (Fp) h0.wf;generalize (Fp).run s0=y at c0 h1 l1 ⊢;obtain ⟨x0,s1⟩:=y;simp only at c0 h1 l1 ⊢;have b1:(σ.AK i (psA L s1)).blk i=some (psA L s1):=(by rw [AO,if_pos rfl]))
  (repeat' (first|refine Run.ct rfl ?_|((first|refine Run.reg mixed ?_|refine Run.AJ ?_|refine Run.A9 BS (AN.le_refl _) ?_|(refine AI.upd c0 ?_)|refine AI.det (hpk) ?_)<;>try simp -implicitDefEqProofs only [hk3,hk1,go_sem])|fail))
 |false=>
 cases hk2:s0.hd.kind==2 with
 |true=>
  simp only [if_true,if_false,AU,run_bind,run_pure,exA,exN,Ex.A3,AG,AH]
  (have c0:=(TG i L (n+1)) σ s0 g0 h0 (by omega) b0;have h1:=h0.run (F4);have l1:=PM.le (F4) h0.wf;generalize (F4).run s0=y at c0 h1 l1 ⊢;obtain ⟨x0,s1⟩:=y;simp only at c0 h1 l1 ⊢;have b1:(σ.AK i (psA L s1)).blk i=some (psA L s1):=(by rw [AO,if_pos rfl]))
  (have c1:=(Uj i L n Xj hE).pc (σ.AK i (psA L s1)) s1 g0 h1 (by omega) b1;rw [A2] at c1;have h2:=h1.run (I6 E);have l2:=PM.le (I6 E) h1.wf;generalize (I6 E).run s1=y at c1 h2 l2 ⊢;obtain ⟨x1,s2⟩:=y;simp only at c1 h2 l2 ⊢;have b2:(σ.AK i (psA L s2)).blk i=some (psA L s2):=(by rw [AO,if_pos rfl]))
  (repeat' (first|refine Run.ct rfl ?_|((first|refine Run.reg mixed ?_|refine Run.AJ ?_|refine Run.A9 BS (AN.le_refl _) ?_|(refine AI.upd c0 ?_)|(refine AI.upd c1 ?_)|refine AI.det (hpk) ?_)<;>try simp -implicitDefEqProofs only [hk3,hk1,hk2,go_sem])|fail))
 |false=>
 simp only [if_false,AU]
 cases t1:s0.hd.text==[45] with
 |true=>
  simp only [if_true,run_bind,run_pure,exA,exN,Ex.A3,AG,AH]
  (have c0:=DM h0 [45] σ b0 t1;have h1:=h0.adv (t:=[45]) (by decide) t1;have l1:=B0 h0.wf;generalize s0.adv=s1 at c0 h1 l1 ⊢;have b1:(σ.AK i (psA L s1)).blk i=some (psA L s1):=by rw [AO,if_pos rfl])
  have hk:=vB hN h1
  (have c1:=(eN i hN n) (σ.AK i (psA L s1)) s1 g0 h1 (by omega) b1;rw [A2] at c1;have h2:=h1.run (Jp);have l2:=PM.le (Jp) h1.wf;generalize (Jp).run s1=y at c1 h2 l2 hk ⊢;obtain ⟨x1,s2⟩:=y;simp only at c1 h2 l2 hk ⊢;have b2:(σ.AK i (psA L s2)).blk i=some (psA L s2):=(by rw [AO,if_pos rfl]))
  have hng:=neg_num hk
  (repeat' (first|refine Run.ct rfl ?_|((first|refine Run.reg mixed ?_|refine Run.AJ ?_|refine Run.A9 BS (AN.le_refl _) ?_|(refine AI.upd c0 ?_)|(refine AI.upd c1 ?_)|refine AI.det (hpk) ?_)<;>try simp -implicitDefEqProofs only [hk3,hk1,hk2,hng,go_sem])|fail))
 |false=>
 have f1:=DL h0 _ σ b0 t1
 cases t2:s0.hd.text==[116,114,117,101] with
 |true=>
  simp only [if_true,if_false,AU,run_pure,exA,exN,Ex.A3,AG,AH]
  (have c0:=DM h0 [116,114,117,101] σ b0 t2;have h1:=h0.adv (t:=[116,114,117,101]) (by decide) t2;have l1:=B0 h0.wf;generalize s0.adv=s1 at c0 h1 l1 ⊢;have b1:(σ.AK i (psA L s1)).blk i=some (psA L s1):=by rw [AO,if_pos rfl])
  (repeat' (first|refine Run.ct rfl ?_|((first|refine Run.reg mixed ?_|refine Run.AJ ?_|refine Run.A9 BS (AN.le_refl _) ?_|(refine AI.upd c0 ?_)|refine AI.det (hpk) ?_|refine AI.det (f1) ?_)<;>try simp -implicitDefEqProofs only [hk3,hk1,hk2,go_sem])|fail))
 |false=>
 have f2:=DL h0 _ σ b0 t2
 cases t3:s0.hd.text==[102,97,108,115,101] with
 |true=>
  simp only [if_true,if_false,AU,run_pure,exA,exN,Ex.A3,AG,AH]
  (have c0:=DM h0 [102,97,108,115,101] σ b0 t3;have h1:=h0.adv (t:=[102,97,108,115,101]) (by decide) t3;have l1:=B0 h0.wf;generalize s0.adv=s1 at c0 h1 l1 ⊢;have b1:(σ.AK i (psA L s1)).blk i=some (psA L s1):=by rw [AO,if_pos rfl])
  (repeat' (first|refine Run.ct rfl ?_|((first|refine Run.reg mixed ?_|refine Run.AJ ?_|refine Run.A9 BS (AN.le_refl _) ?_|(refine AI.upd c0 ?_)|refine AI.det (hpk) ?_|refine AI.det (f1) ?_|refine AI.det (f2) ?_)<;>try simp -implicitDefEqProofs only [hk3,hk1,hk2,go_sem])|fail))
 |false=>
 have f3:=DL h0 _ σ b0 t3
 cases t4:s0.hd.text==[40] with
 |true=>
  simp only [if_true,if_false,AU]
  (have c0:=DM h0 [40] σ b0 t4;have h1:=h0.adv (t:=[40]) (by decide) t4;have l1:=B0 h0.wf;generalize s0.adv=s1 at c0 h1 l1 ⊢;have b1:(σ.AK i (psA L s1)).blk i=some (psA L s1):=by rw [AO,if_pos rfl])
  (have c1:=(ACA i L n hE) (σ.AK i (psA L s1)) s1 g0 h1 (by omega) b1;rw [A2] at c1;have h2:=h1.run (eQ E);have l2:=PM.le (eQ E) h1.wf;generalize (eQ E).run s1=y at c1 h2 l2 ⊢;obtain ⟨x1,s2⟩:=y;simp only at c1 h2 l2 ⊢;have b2:(σ.AK i (psA L s2)).blk i=some (psA L s2):=(by rw [AO,if_pos rfl]);obtain ⟨o1,n1,u1,ns1,ks1,al1⟩:=x1;simp only [exA,Ex.A3,AG,AH] at c1 ⊢)
  (repeat' (first|refine Run.ct rfl ?_|((first|refine Run.reg mixed ?_|refine Run.AJ ?_|refine Run.A9 BS (AN.le_refl _) ?_|(refine AI.upd c0 ?_)|(refine AI.upd c1 ?_)|refine AI.det (hpk) ?_|refine AI.det (f1) ?_|refine AI.det (f2) ?_|refine AI.det (f3) ?_)<;>try simp -implicitDefEqProofs only [hk3,hk1,hk2,go_sem])|fail))
 |false=>
 have f4:=DL h0 _ σ b0 t4
 cases t5:s0.hd.text==[116,105,99,107] with
 |true=>
  simp only [if_true,if_false,AU]
  (have c0:=DM h0 [116,105,99,107] σ b0 t5;have h1:=h0.adv (t:=[116,105,99,107]) (by decide) t5;have l1:=B0 h0.wf;generalize s0.adv=s1 at c0 h1 l1 ⊢;have b1:(σ.AK i (psA L s1)).blk i=some (psA L s1):=by rw [AO,if_pos rfl])
  (have c1:=(zI i hN n) (σ.AK i (psA L s1)) s1 g0 h1 (by omega) b1;rw [A2] at c1;have h2:=h1.run (cO);have l2:=PM.le (cO) h1.wf;generalize (cO).run s1=y at c1 h2 l2 ⊢;obtain ⟨x1,s2⟩:=y;simp only at c1 h2 l2 ⊢;have b2:(σ.AK i (psA L s2)).blk i=some (psA L s2):=(by rw [AO,if_pos rfl]);obtain ⟨o1,n1,u1,ns1,ks1,al1⟩:=x1;simp only [exA,Ex.A3,AG,AH] at c1 ⊢)
  (repeat' (first|refine Run.ct rfl ?_|((first|refine Run.reg mixed ?_|refine Run.AJ ?_|refine Run.A9 BS (AN.le_refl _) ?_|(refine AI.upd c0 ?_)|(refine AI.upd c1 ?_)|refine AI.det (hpk) ?_|refine AI.det (f1) ?_|refine AI.det (f2) ?_|refine AI.det (f3) ?_|refine AI.det (f4) ?_)<;>try simp -implicitDefEqProofs only [hk3,hk1,hk2,go_sem])|fail))
 |false=>
 have f5:=DL h0 _ σ b0 t5
 cases t6:s0.hd.text==[114,97,105,115,101] with
 |true=>
  simp only [if_true,if_false,AU,run_bind,run_pure,AA9,exA,exN,Ex.A3,AG,AH]
  (have c0:=DM h0 [114,97,105,115,101] σ b0 t6;have h1:=h0.adv (t:=[114,97,105,115,101]) (by decide) t6;have l1:=B0 h0.wf;generalize s0.adv=s1 at c0 h1 l1 ⊢;have b1:(σ.AK i (psA L s1)).blk i=some (psA L s1):=by rw [AO,if_pos rfl])
  (have c1:=(nI i L n hE 1 (by omega)) (σ.AK i (psA L s1)) s1 g0 h1 (by omega) b1;rw [A2] at c1;have h2:=h1.run (Ts E 1);have l2:=PM.le (Ts E 1) h1.wf;generalize (Ts E 1).run s1=y at c1 h2 l2 ⊢;obtain ⟨x1,s2⟩:=y;simp only at c1 h2 l2 ⊢;have b2:(σ.AK i (psA L s2)).blk i=some (psA L s2):=(by rw [AO,if_pos rfl]))
  (repeat' (first|refine Run.ct rfl ?_|((first|refine Run.reg mixed ?_|refine Run.AJ ?_|refine Run.A9 BS (AN.le_refl _) ?_|(refine AI.upd c0 ?_)|(refine AI.upd c1 ?_)|refine AI.det (hpk) ?_|refine AI.det (f1) ?_|refine AI.det (f2) ?_|refine AI.det (f3) ?_|refine AI.det (f4) ?_|refine AI.det (f5) ?_)<;>try simp -implicitDefEqProofs only [hk3,hk1,hk2,go_sem])|fail))
 |false=>
 have f6:=DL h0 _ σ b0 t6
 simp only [if_false,AU]
 have hpl:=rL E s0
 simp only [Hb] at hpl
 rw [hpl]
 clear hpl
 (repeat' (first|refine Run.ct rfl ?_|((first|refine Run.reg mixed ?_|refine Run.AJ ?_|refine AI.det (hpk) ?_|refine AI.det (f1) ?_|refine AI.det (f2) ?_|refine AI.det (f3) ?_|refine AI.det (f4) ?_|refine AI.det (f5) ?_|refine AI.det (f6) ?_)<;>try simp -implicitDefEqProofs only [hk3,hk1,hk2,go_sem])|fail))
 refine Run.B3 ?_
 refine Run.B6 ((fun (a0:AV) (a2:AV)=>fun (k:Nat)=>put 0 a0 (put 2 a2 (put 5 (.d (.int .i64 (k:Nat))) U))) _ _) (fun _=>BZ 2 [.d (.int .i64 0),.d (.str []),.d (.int .i64 0),.AX,.AX,.AX] Ab.E) (fun _=>σ) (fun k=>1≤k∧k≤8∧(cR E (8 - k) k).run s0=(cR E 7 1).run s0) (fun k=>8 - k) ?_ 1 ⟨by omega,by omega,rfl⟩
 rintro k ⟨q1,q2,q3⟩ ih
 by_cases hk7:k≤7
 · obtain ⟨m,hm⟩:∃m,8 - k=m+1:=⟨7 - k,by omega⟩
   have hpr:=XF k q1 hk7
   have hw:=BV (a:=k) (by omega)
   rw [hm,cR,Hb] at q3
   cases ht:s0.hd.text==prT (k:Int) with
   |true=>
    rw [ht,if_pos rfl] at q3
    rw [← q3]
    have h13:=vP q1 hk7
    simp only [run_bind,run_pure,exA,exN,Ex.A3,AG,AH]
    have c0:=DM h0 (prT (k:Int)) σ b0 ht
    have h1:=h0.adv (vO (k:Int)) ht
    have l1:=B0 h0.wf
    generalize s0.adv=s1 at c0 h1 l1 ⊢
    have b1:(σ.AK i (psA L s1)).blk i=some (psA L s1):=(by rw [AO,if_pos rfl])
    (have c1:=(nI i L n hE (Hk (k:Int)) h13) (σ.AK i (psA L s1)) s1 g0 h1 (by omega) b1;rw [A2] at c1;have h2:=h1.run (Ts E (Hk (k:Int)));have l2:=PM.le (Ts E (Hk (k:Int))) h1.wf;generalize (Ts E (Hk (k:Int))).run s1=y at c1 h2 l2 ⊢;obtain ⟨x1,s2⟩:=y;simp only at c1 h2 l2 ⊢;have b2:(σ.AK i (psA L s2)).blk i=some (psA L s2):=(by rw [AO,if_pos rfl]))
    (repeat' (first|refine Run.ct rfl ?_|((first|refine Run.reg mixed ?_|refine Run.AJ ?_|refine Run.A9 BS (AN.le_refl _) ?_|(refine AI.upd c0 ?_)|(refine AI.upd c1 ?_)|refine AI.det (hpr _) ?_)<;>try simp -implicitDefEqProofs only [AAJ hk7,go_sem])|fail))
   |false=>
    rw [ht,if_neg (by decide)] at q3
    have f7:=DL h0 _ σ b0 ht
    (repeat' (first|refine Run.ct rfl ?_|((first|refine Run.reg mixed ?_|refine Run.AJ ?_|refine AI.det (hpr _) ?_|refine AI.det (f7) ?_)<;>try simp -implicitDefEqProofs only [AAJ hk7,hw,go_sem])|fail))
    exact ih (k+1) ⟨by omega,by omega,by rw [show 8 - (k+1)=m by omega];exact q3⟩ (by omega)
 · have:k=8:=by omega
   subst this
   rw [← q3]
   have hp0:(cR E (8 - 8) 8).run s0=(exN 0 0 [],s0.fail):=rfl
   rw [hp0]
   simp only [exA,exN,Ex.A3,AG,AH]
   (repeat' (first|refine Run.ct rfl ?_|((first|refine Run.reg mixed ?_|refine Run.AJ ?_|refine Run.A9 BS (AN.le_refl _) ?_|(refine AI.upd (V0 h0 σ b0) ?_))<;>try simp -implicitDefEqProofs only [ADT hk7,go_sem])|fail))
end Go.Ab
namespace Go.Ab
open Go.Proofs
theorem zH (i:Nat) (x:Str):WC 80 [.gp i 0,.d (.str x)] i x:=by
 intro σ0 σ s hH hbu hlen
 refine R1 (by simp) ?_
 rw [BP]
 (repeat' (first|refine Run.ct rfl ?_|((first|refine Run.reg mixed ?_|refine Run.AJ ?_|(refine AI.mk rfl (A7 x hbu hlen) ?_;rintro _ σ1 ⟨rfl,hb1⟩))<;>try simp -implicitDefEqProofs only [go_sem])|fail))
 exact Run.fin KN rfl (fun _ _ h=>h) (AN.le_refl _) ⟨rfl,hb1⟩
theorem fZ (i:Nat) (x:Str):WC 140 [.gp i 0,.d (.str x)] i (shown x):=by
 intro σ0 σ s hH hbu hlen
 refine RU (by simp) ?_
 rw [BP]
 by_cases hx:x=[]
 · subst hx
   rw [shown,if_pos rfl] at hlen ⊢
   (repeat' (first|refine Run.ct rfl ?_|((first|refine Run.reg mixed ?_|refine Run.AJ ?_|(refine AI.mk rfl (A7 [95] hbu hlen) ?_;rintro _ σ1 ⟨rfl,hb1⟩))<;>try simp -implicitDefEqProofs only [go_sem])|fail))
   exact Run.fin Gr rfl (fun _ _ h=>h) (AN.le_refl _) ⟨rfl,hb1⟩
 · rw [shown,if_neg hx] at hlen ⊢
   have he:(x==([]:Str))=false:=by cases x with|nil=>exact absurd rfl hx|cons a l=>rfl
   (repeat' (first|refine Run.ct rfl ?_|((first|refine Run.reg mixed ?_|refine Run.AJ ?_|(refine AI.mk rfl (A7 x hbu hlen) ?_;rintro _ σ1 ⟨rfl,hb1⟩))<;>try simp -implicitDefEqProofs only [he,decide_eq_false hx,go_sem])|fail))
   exact Run.fin Gr rfl (fun _ _ h=>h) (AN.le_refl _) ⟨rfl,hb1⟩
set_option maxHeartbeats 2000000 in
theorem wO (i:Nat):∀(d:Nat) (t:TE),Bf d t=true→WC 84 [.gp i 0,teA t] i (Au t)
 |0,t,h=>by simp [Bf] at h
 |d+1,.mk k n l,h=>by
  rw [Bf,AM,A4] at h
  obtain ⟨hsh,hall⟩:=h
  have hr:∀x∈l,WC 84 ([.gp i 0]++[teA x]++[]) i (Au x):=fun x hx=>wO i d x (hall x hx)
  have hopt:=IG (H:=fun _=>True) i (first:=[.gp i 0]) (caps:=[]) (by kernel_rfl:Aw Tryz.prog 84=true) ⟨rfl,rfl⟩ Au l hr
  intro σ0 σ s hH hbu hlen
  rw [Au,NJ] at hlen ⊢
  refine S5 (by simp) ?_
  rw [BP]
  simp only [teA,TE.A3,AG,AH]
  by_cases h1:k=1
  · subst h1
    simp only [tyN,if_true] at hlen ⊢
    (repeat' (first|refine Run.ct rfl ?_|((first|refine Run.reg mixed ?_|refine Run.AJ ?_|(refine AI.mk rfl (A7 [105,110,116] hbu hlen) ?_;rintro _ σ1 ⟨rfl,hb1⟩))<;>try simp -implicitDefEqProofs only [go_sem])|fail))
    exact Run.fin Bv rfl (fun _ _ h=>h) (AN.le_refl _) ⟨rfl,hb1⟩
  by_cases h2:k=2
  · subst h2
    have e:tyN 2 n (l.map Au)=[98,111,111,108]:=rfl
    rw [e] at hlen ⊢
    (repeat' (first|refine Run.ct rfl ?_|((first|refine Run.reg mixed ?_|refine Run.AJ ?_|(refine AI.mk rfl (A7 [98,111,111,108] hbu hlen) ?_;rintro _ σ1 ⟨rfl,hb1⟩))<;>try simp -implicitDefEqProofs only [go_sem])|(refine ⟨fun h=>?_,fun h=>?_⟩<;>first|(cases h;done)|try simp only [h])|fail))
    exact Run.fin Bv rfl (fun _ _ h=>h) (AN.le_refl _) ⟨rfl,hb1⟩
  by_cases h3:k=3
  · subst h3
    have e:tyN 3 n (l.map Au)=[117,110,105,116]:=rfl
    rw [e] at hlen ⊢
    (repeat' (first|refine Run.ct rfl ?_|((first|refine Run.reg mixed ?_|refine Run.AJ ?_|(refine AI.mk rfl (A7 [117,110,105,116] hbu hlen) ?_;rintro _ σ1 ⟨rfl,hb1⟩))<;>try simp -implicitDefEqProofs only [go_sem])|(refine ⟨fun h=>?_,fun h=>?_⟩<;>first|(cases h;done)|try simp only [h])|fail))
    exact Run.fin Bv rfl (fun _ _ h=>h) (AN.le_refl _) ⟨rfl,hb1⟩
  by_cases h7:k=7
  · subst h7
    have e:tyN 7 n (l.map Au)=[97,114,114,97,121]++Dc (l.map Au):=rfl
    rw [e,AA,← Mu,← AA] at hlen
    rw [e,← AS]
    have hl1:s.length+([97,114,114,97,121]).length≤100000000000000:=by rw [AA] at hlen;omega
    (repeat' (first|refine Run.ct rfl ?_|((first|refine Run.reg mixed ?_|refine Run.AJ ?_|(refine AI.mk rfl (A7 [97,114,114,97,121] hbu hl1) ?_;rintro _ σ1 ⟨rfl,hb1⟩))<;>try simp -implicitDefEqProofs only [go_sem])|(refine ⟨fun h=>?_,fun h=>?_⟩<;>first|(cases h;done)|try simp only [h])|fail))
    (repeat' (first|refine Run.ct rfl ?_|((first|refine Run.reg mixed ?_|refine Run.AJ ?_|(refine AI.mk rfl (hopt σ0 σ1 _ hH hb1 hlen) ?_;rintro _ σ2 ⟨rfl,hb2⟩))<;>try simp -implicitDefEqProofs only [go_sem])|fail))
    exact Run.fin Bv rfl (fun _ _ h=>h) (AN.le_refl _) ⟨rfl,hb2⟩
  by_cases h8:k=8
  · subst h8
    have e:tyN 8 n (l.map Au)=[114,101,102]++Dc (l.map Au):=rfl
    rw [e,AA,← Mu,← AA] at hlen
    rw [e,← AS]
    have hl1:s.length+([114,101,102]).length≤100000000000000:=by rw [AA] at hlen;omega
    (repeat' (first|refine Run.ct rfl ?_|((first|refine Run.reg mixed ?_|refine Run.AJ ?_|(refine AI.mk rfl (A7 [114,101,102] hbu hl1) ?_;rintro _ σ1 ⟨rfl,hb1⟩))<;>try simp -implicitDefEqProofs only [go_sem])|(refine ⟨fun h=>?_,fun h=>?_⟩<;>first|(cases h;done)|try simp only [h])|fail))
    (repeat' (first|refine Run.ct rfl ?_|((first|refine Run.reg mixed ?_|refine Run.AJ ?_|(refine AI.mk rfl (hopt σ0 σ1 _ hH hb1 hlen) ?_;rintro _ σ2 ⟨rfl,hb2⟩))<;>try simp -implicitDefEqProofs only [go_sem])|fail))
    exact Run.fin Bv rfl (fun _ _ h=>h) (AN.le_refl _) ⟨rfl,hb2⟩
  by_cases h9:k=9
  · subst h9
    have hne:l≠[]:=by
     intro e;subst e
     simp [Bk] at hsh
    obtain ⟨l,z,rfl⟩:∃l' z,l=l'++[z]:=⟨l.dropLast,l.getLast hne,(List.dropLast_concat_getLast hne).symm⟩
    have hsep:=Hl (H:=fun _=>True) i (first:=[.gp i 0]) (caps:=[]) (by kernel_rfl:Aw Tryz.prog 84=true) ⟨rfl,rfl⟩ [44,32] Au l (fun x hx=>hr x (by simp [hx]))
    have hz:WC 84 [.gp i 0,teA z] i (Au z):=hr z (by simp)
    have e:tyN 9 n ((l++[z]).map Au)=[102,110,40]++(Lib.join (l.map Au) [44,32]++([41,32,45,62,32]++Au z)):=by
     show [102,110]++(FU ((l++[z]).map Au).dropLast++([32,45,62,32]++((l++[z]).map Au).getLastD []))=_
     rw [Bg,List.map_singleton,Rq,FU,GB,cms,Rr]
     simp
    rw [e] at hlen ⊢
    simp only [AA,AB,AD] at hlen hsh
    have hl7:l.length≤7:=by
     have:Bk 9 n (l.length+1)=(n==[]&&decide (1≤l.length+1)&&decide (l.length+1≤7)):=rfl
     simp only [B9] at hsh
     rw [this,AM,AM,decide_eq_true_eq,decide_eq_true_eq] at hsh
     omega
    have hw:IntKind.i64.wrap (((l++[z]).length:Nat) - 1:Int)=((l.length:Nat):Int):=by
     rw [AA,Qr,Av (by omega) (by omega)];omega
    have hzx:(l++[z])[l.length]?=some z:=by simp
    have he:=Bi (enc:=TE.enc) hzx
    have htk:Ur ((l++[z]).map TE.enc) none (some (.d (.int .i64 (l.length:Int)))) none 3=some (.d (.sl (l.map TE.enc))):=by
     have h0:Ur ((l++[z]).map TE.enc) none (some (.d (.int .i64 (l.length:Int)))) none 3=some (.d (.sl (((l++[z]).map TE.enc).take l.length))):=by simp [Ur,VG,Th]
     rw [h0,← List.map_take,G1]
    obtain ⟨zk,zn,zl⟩:=z
    simp only [teA,TE.A3,AG,AH] at he hz
    (repeat' (first|refine Run.ct rfl ?_|((first|refine Run.reg mixed ?_|refine Run.AJ ?_|(refine AI.mk rfl (A7 [102,110,40] hbu (by simp only [AB,AD];omega)) ?_;rintro _ σ1 ⟨rfl,hb1⟩))<;>try simp -implicitDefEqProofs only [hw,htk,AE,go_sem])|(refine ⟨fun h=>?_,fun h=>?_⟩<;>first|(cases h;done)|try simp only [h])|fail))
    (repeat' (first|refine Run.ct rfl ?_|((first|refine Run.reg mixed ?_|refine Run.AJ ?_|(refine AI.mk rfl (hsep σ0 σ1 _ hH hb1 (by simp only [AA,AB,AD];omega)) ?_;rintro _ σ2 ⟨rfl,hb2⟩))<;>try simp -implicitDefEqProofs only [go_sem])|fail))
    (repeat' (first|refine Run.ct rfl ?_|((first|refine Run.reg mixed ?_|refine Run.AJ ?_|(refine AI.mk rfl (A7 [41,32,45,62,32] hb2 (by simp only [AA,AB,AD];omega)) ?_;rintro _ σ3 ⟨rfl,hb3⟩))<;>try simp -implicitDefEqProofs only [he,go_sem])|fail))
    (repeat' (first|refine Run.ct rfl ?_|((first|refine Run.reg mixed ?_|refine Run.AJ ?_|(refine AI.mk rfl (hz σ0 σ3 _ hH hb3 (by simp only [AA,AB,AD];omega)) ?_;rintro _ σ4 ⟨rfl,hb4⟩))<;>try simp -implicitDefEqProofs only [he,go_sem])|fail))
    simp only [AS] at hb4
    exact Run.fin Bv rfl (fun _ _ h=>h) (AN.le_refl _) ⟨rfl,hb4⟩
  have e:tyN k n (l.map Au)=n++Dc (l.map Au):=by rw [tyN,if_neg h1,if_neg h2,if_neg h3,if_neg h7,if_neg h8,if_neg h9]
  rw [e,AA,← Mu,← AA] at hlen
  rw [e,← AS]
  have hl1:s.length+n.length≤100000000000000:=by rw [AA] at hlen;omega
  (repeat' (first|refine Run.ct rfl ?_|((first|refine Run.reg mixed ?_|refine Run.AJ ?_|(refine AI.mk rfl (A7 n hbu hl1) ?_;rintro _ σ1 ⟨rfl,hb1⟩))<;>try simp -implicitDefEqProofs only [Bt h1,Bt h2,Bt h3,Bt h7,Bt h8,Bt h9,go_sem])|fail))
  (repeat' (first|refine Run.ct rfl ?_|((first|refine Run.reg mixed ?_|refine Run.AJ ?_|(refine AI.mk rfl (hopt σ0 σ1 _ hH hb1 hlen) ?_;rintro _ σ2 ⟨rfl,hb2⟩))<;>try simp -implicitDefEqProofs only [go_sem])|fail))
  exact Run.fin Bv rfl (fun _ _ h=>h) (AN.le_refl _) ⟨rfl,hb2⟩
end Go.Ab
