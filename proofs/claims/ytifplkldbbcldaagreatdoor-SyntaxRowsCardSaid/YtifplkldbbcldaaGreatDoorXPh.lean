/- The parser: expressions of the highest level. The printer: text, bind, types. Conditions: none. -/
import Derived.Test.YtifplkldbbcldaaGreatDoorXUc
set_option linter.unusedSimpArgs false
set_option linter.unusedVariables false
set_option maxRecDepth 4000
set_option maxHeartbeats 8000000
open List renaming map_cons→AF,map_nil→AI,length_map→AE,length_cons→AD,length_nil→AG,all_eq_true→A5,length_append→AA,append_assoc→AS,map_append→BU,take_left→KZ
open Bool renaming false_eq_true→AU,and_eq_true→AL
open Nat renaming add_assoc→M1,zero_add→B7
namespace Go.Ab
open Go.Proofs
theorem tC {n:Int} (h0: -9223372036854775808≤n) (h1:n≤9223372036854775807):IntKind.i64.wrap n=n:=by
 rcases Int.le_total 0 n with h|h
 · exact Ax h h1
 · unfold IntKind.wrap
   simp only [IntKind.signed,IntKind.bits]
   rcases Int.lt_or_le n 0 with h2|h2
   · have e:n % (2 ^ 64:Int)=n+18446744073709551616:=by omega
     simp only [e]
     rw [if_pos (by simp;omega)]
     omega
   · have:n=0:=by omega
     subst this;rfl
theorem neg_num {x:Int} (h:0≤x∧x≤1000000):IntKind.i64.wrap (0 - x)=-x:=by rw [tC (by omega) (by omega)];omega
theorem rJ {L:List Tok} {s:PSt} (hN:NOk L) (hs:POk L s):0≤(J4.run s).1∧(J4.run s).1≤1000000:=kW (fE hN hs)
theorem wI (i:Nat) {L:List Tok} (hN:NOk L) (n:Nat):PC 212 [.gp i 0] i L n Zu exA:=by
 intro σ s0 g0 h0 l0 b0
 refine Rl (by simp) ?_
 rw [BE]
 simp only [Zu,run_bind,run_pure,exA,exN,Ex.A0,AF,AI]
 (have c0:=(DH i L n [40] (by decide)) σ s0 g0 h0 (by omega) b0;have h1:=h0.run (PM.exp [40] (by decide));have l1:=PM.le (PM.exp [40] (by decide)) h0.wf;generalize (PM.exp [40] (by decide)).run s0=y at c0 h1 l1 ⊢;obtain ⟨x0,s1⟩:=y;simp only at c0 h1 l1 ⊢;have b1:(σ.AM i (psA L s1)).blk i=some (psA L s1):=(by rw [AO,if_pos rfl]))
 cases t1:s1.hd.text==[45] with
 |true=>
  have hr:(ET [45] (J4.map fun n=>-n) J4).run s1=(-(J4.run s1.adv).1,(J4.run s1.adv).2):=if_pos t1
  rw [hr]
  simp only
  (have c1:=DG h1 [45] (σ.AM i (psA L s1)) b1 t1;rw [A2] at c1;have h2:=h1.adv (t:=[45]) (by decide) t1;have l2:=BR h1.wf;generalize s1.adv=s2 at c1 h2 l2 ⊢;have b2:(σ.AM i (psA L s2)).blk i=some (psA L s2):=by rw [AO,if_pos rfl])
  have hk:=rJ hN h2
  (have c2:=(bQ i hN n) (σ.AM i (psA L s2)) s2 g0 h2 (by omega) b2;rw [A2] at c2;have h3:=h2.run (J4);have l3:=PM.le (J4) h2.wf;generalize (J4).run s2=y at c2 h3 l3 hk ⊢;obtain ⟨x2,s3⟩:=y;simp only at c2 h3 l3 hk ⊢;have b3:(σ.AM i (psA L s3)).blk i=some (psA L s3):=(by rw [AO,if_pos rfl]))
  have hng:=neg_num hk
  (have c3:=(DH i L n [41] (by decide)) (σ.AM i (psA L s3)) s3 g0 h3 (by omega) b3;rw [A2] at c3;have h4:=h3.run (PM.exp [41] (by decide));have l4:=PM.le (PM.exp [41] (by decide)) h3.wf;generalize (PM.exp [41] (by decide)).run s3=y at c3 h4 l4 ⊢;obtain ⟨x3,s4⟩:=y;simp only at c3 h4 l4 ⊢;have b4:(σ.AM i (psA L s4)).blk i=some (psA L s4):=(by rw [AO,if_pos rfl]))
  (repeat' (first|refine Run.ct rfl ?_|((first|refine Run.reg mixed ?_|refine Run.AJ ?_|refine Run.A9 HH (AN.le_refl _) ?_|(refine AH.upd c0 ?_)|(refine AH.upd c1 ?_)|(refine AH.upd c2 ?_)|(refine AH.upd c3 ?_)|(refine AR rfl (fun h=>?_) (fun h=>?_)<;>try (cases h;done)))<;>try simp -implicitDefEqProofs only [hng,go_sem])|(refine ⟨fun h=>?_,fun h=>?_⟩<;>first|(cases h;done)|try simp only [h])|fail))
 |false=>
  have hr:(ET [45] (J4.map fun n=>-n) J4).run s1=J4.run s1:=if_neg (by rw [t1];decide)
  rw [hr]
  have f1:=DF h1 [45] (σ.AM i (psA L s1)) b1 t1
  (have c1:=(bQ i hN n) (σ.AM i (psA L s1)) s1 g0 h1 (by omega) b1;rw [A2] at c1;have h2:=h1.run (J4);have l2:=PM.le (J4) h1.wf;generalize (J4).run s1=y at c1 h2 l2 ⊢;obtain ⟨x1,s2⟩:=y;simp only at c1 h2 l2 ⊢;have b2:(σ.AM i (psA L s2)).blk i=some (psA L s2):=(by rw [AO,if_pos rfl]))
  (have c2:=(DH i L n [41] (by decide)) (σ.AM i (psA L s2)) s2 g0 h2 (by omega) b2;rw [A2] at c2;have h3:=h2.run (PM.exp [41] (by decide));have l3:=PM.le (PM.exp [41] (by decide)) h2.wf;generalize (PM.exp [41] (by decide)).run s2=y at c2 h3 l3 ⊢;obtain ⟨x2,s3⟩:=y;simp only at c2 h3 l3 ⊢;have b3:(σ.AM i (psA L s3)).blk i=some (psA L s3):=(by rw [AO,if_pos rfl]))
  (repeat' (first|refine Run.ct rfl ?_|((first|refine Run.reg mixed ?_|refine Run.AJ ?_|refine Run.A9 HH (AN.le_refl _) ?_|(refine AH.upd c0 ?_)|(refine AH.upd c1 ?_)|(refine AH.upd c2 ?_)|refine AH.det (f1) ?_|(refine AR rfl (fun h=>?_) (fun h=>?_)<;>try (cases h;done)))<;>try simp -implicitDefEqProofs only [go_sem])|(refine ⟨fun h=>?_,fun h=>?_⟩<;>first|(cases h;done)|try simp only [h])|fail))
theorem Ws:Ar Tryz.prog 131=true:=by kernel_rfl
theorem Ex.uQ (e:Ex):e.enc.length=6:=by cases e;rw [Ex.A0];rfl
theorem zG (i:Nat) (L:List Tok) (n:Nat) {E:PM Ex} (hE:PC 131 [.gp i 0] i L n E exA):PC 211 [.gp i 0] i L n (bU E) exA:=by
 intro σ s0 g0 h0 l0 b0
 refine MK (by simp) ?_
 rw [BE]
 simp only [bU,HY]
 cases t0:s0.hd.text==[41] with
 |true=>
  simp only [if_true,run_pure,exA,exN,Ex.A0,AF,AI]
  (have c0:=DG h0 [41] σ b0 t0;have h1:=h0.adv (t:=[41]) (by decide) t0;have l1:=BR h0.wf;generalize s0.adv=s1 at c0 h1 l1 ⊢;have b1:(σ.AM i (psA L s1)).blk i=some (psA L s1):=by rw [AO,if_pos rfl])
  (repeat' (first|refine Run.ct rfl ?_|((first|refine Run.reg mixed ?_|refine Run.AJ ?_|refine Run.A9 CJ (AN.le_refl _) ?_|(refine AH.upd c0 ?_)|(refine AR rfl (fun h=>?_) (fun h=>?_)<;>try (cases h;done)))<;>try simp -implicitDefEqProofs only [go_sem])|(refine ⟨fun h=>?_,fun h=>?_⟩<;>first|(cases h;done)|try simp only [h])|fail))
 |false=>
  have f0:=DF h0 _ σ b0 t0
  simp only [if_false,AU,run_bind,HY]
  (have c0:=hE σ s0 g0 h0 (by omega) b0;have h1:=h0.run (E);have l1:=PM.le (E) h0.wf;generalize (E).run s0=y at c0 h1 l1 ⊢;obtain ⟨x0,s1⟩:=y;simp only at c0 h1 l1 ⊢;have b1:(σ.AM i (psA L s1)).blk i=some (psA L s1):=(by rw [AO,if_pos rfl]);obtain ⟨o0,n0,u0,ns0,ks0,al0⟩:=x0;simp only [exA,Ex.A0,AF,AI] at c0 ⊢)
  cases t1:s1.hd.text==[41] with
  |true=>
   simp only [if_true,run_pure,exA,Ex.A0,AF,AI]
   (have c1:=DG h1 [41] (σ.AM i (psA L s1)) b1 t1;rw [A2] at c1;have h2:=h1.adv (t:=[41]) (by decide) t1;have l2:=BR h1.wf;generalize s1.adv=s2 at c1 h2 l2 ⊢;have b2:(σ.AM i (psA L s2)).blk i=some (psA L s2):=by rw [AO,if_pos rfl])
   (repeat' (first|refine Run.ct rfl ?_|((first|refine Run.reg mixed ?_|refine Run.AJ ?_|refine Run.A9 CJ (AN.le_refl _) ?_|(refine AH.upd c0 ?_)|(refine AH.upd c1 ?_)|refine AH.det (f0) ?_|(refine AR rfl (fun h=>?_) (fun h=>?_)<;>try (cases h;done)))<;>try simp -implicitDefEqProofs only [go_sem])|(refine ⟨fun h=>?_,fun h=>?_⟩<;>first|(cases h;done)|try simp only [h])|fail))
  |false=>
   have f1:=DF h1 _ (σ.AM i (psA L s1)) b1 t1
   simp only [if_false,AU,run_bind,run_pure,exA,exN,Ex.A0,AF,AI]
   (have c1:=(DH i L n [44] (by decide)) (σ.AM i (psA L s1)) s1 g0 h1 (by omega) b1;rw [A2] at c1;have h2:=h1.run (PM.exp [44] (by decide));have l2:=PM.le (PM.exp [44] (by decide)) h1.wf;generalize (PM.exp [44] (by decide)).run s1=y at c1 h2 l2 ⊢;obtain ⟨x1,s2⟩:=y;simp only at c1 h2 l2 ⊢;have b2:(σ.AM i (psA L s2)).blk i=some (psA L s2):=(by rw [AO,if_pos rfl]))
   (have d2:=fun tk:Nat=>(GF i L n Ws hE).pc ((σ.AM i (psA L s2)).BW tk) s2 g0 h2 (by omega) (by rw [Fx];exact b2);have c2:=(GF i L n Ws hE).pc (σ.AM i (psA L s2)) s2 g0 h2 (by omega) b2;rw [A2] at c2;have h3:=h2.run (listed E);have l3:=PM.le (listed E) h2.wf;have n2:=Pp (read:=E) h2.wf;generalize (listed E).run s2=y at c2 d2 h3 l3 n2 ⊢;obtain ⟨x2,s3⟩:=y;simp only at c2 d2 h3 l3 n2 ⊢;have q2:=h0.suf.length_le;have q2':=h0.len)
   (repeat' (first|refine Run.ct rfl ?_|((first|refine Run.reg mixed ?_|refine Run.AJ ?_|(refine AH.upd c0 ?_)|(refine AH.upd c1 ?_)|refine AH.det (f0) ?_|refine AH.det (f1) ?_|(refine AR rfl (fun h=>?_) (fun h=>?_)<;>try (cases h;done)))<;>try simp -implicitDefEqProofs only [go_sem])|(refine ⟨fun h=>?_,fun h=>?_⟩<;>first|(cases h;done)|try simp only [h])|fail))
   refine Run.SD mixed ?_;simp -implicitDefEqProofs only [go_sem]
   refine ⟨?_,?_⟩
   · refine IT.own rfl (by decide) (fun tk htk=>?_);simp -implicitDefEqProofs only [go_sem]
     refine AH.upd (d2 tk) ?_;simp -implicitDefEqProofs only [go_sem]
     (apply LS.tok (LS.uX htk s3);rfl;exact (Mz _ _ Ex.uQ);(simp only [AE,AD,AG];omega);decide;intro v2 τ2 ho);simp -implicitDefEqProofs only [ho.own.BT,ho.own.At,ho.own.cells,ho.own.cell,ho.own.plain,ho.own.dv,if_true,go_sem]
     (repeat' (first|refine Run.ct rfl ?_|((first|refine Run.reg mixed ?_|refine Run.AJ ?_|(refine Run.A9 CJ ho.le ?_)|(refine AR rfl (fun h=>?_) (fun h=>?_)<;>try (cases h;done)))<;>try simp -implicitDefEqProofs only [ho.own.BT,ho.own.At,ho.own.cells,ho.own.cell,ho.own.plain,ho.own.dv,if_true,go_sem])|(refine ⟨fun h=>?_,fun h=>?_⟩<;>first|(cases h;done)|try simp only [h])|fail))
   · refine AH.upd c2 ?_;simp -implicitDefEqProofs only [go_sem]
     refine IT.own rfl (by decide) (fun tk htk=>?_);simp -implicitDefEqProofs only [go_sem]
     (apply LS.tok (LS.uW htk);rfl;exact (Mz _ _ Ex.uQ);(simp only [AE,AD,AG];omega);decide;intro v2 τ2 ho);simp -implicitDefEqProofs only [ho.own.BT,ho.own.At,ho.own.cells,ho.own.cell,ho.own.plain,ho.own.dv,if_true,go_sem]
     (repeat' (first|refine Run.ct rfl ?_|((first|refine Run.reg mixed ?_|refine Run.AJ ?_|(refine Run.A9 CJ ho.le ?_)|(refine AR rfl (fun h=>?_) (fun h=>?_)<;>try (cases h;done)))<;>try simp -implicitDefEqProofs only [ho.own.BT,ho.own.At,ho.own.cells,ho.own.cell,ho.own.plain,ho.own.dv,if_true,go_sem])|(refine ⟨fun h=>?_,fun h=>?_⟩<;>first|(cases h;done)|try simp only [h])|fail))
theorem rX (k:Int):prT k≠[]:=by
 unfold prT
 repeat' split
 all_goals simp
def Zx (E:PM Ex):Nat→Nat→PM Ex
 |0,_=>.fail (exN 0 0 [])
 |n+1,k=>.acc (prT (k:Int)) (rX (k:Int)) ((TO E (H7 (k:Int))).bind fun l=>.pure (exN 14 (k:Int) l)) (Zx E n (k+1))
theorem nW (E:PM Ex) (s:PSt):(ET [110,101,119] ((Rz E).bind fun l=>.pure (exN 14 1 l)) <|
 ET [103,101,116] ((Rz E).bind fun l=>.pure (exN 14 2 l)) <|
 ET [115,101,116] ((bS E).bind fun l=>.pure (exN 14 3 l)) <|
 ET [108,101,110] ((OD E).bind fun l=>.pure (exN 14 4 l)) <|
 ET [114,101,102] ((OD E).bind fun l=>.pure (exN 14 5 l)) <|
 ET [114,101,97,100] ((OD E).bind fun l=>.pure (exN 14 6 l)) <|
 ET [119,114,105,116,101] ((Rz E).bind fun l=>.pure (exN 14 7 l)) <|
 .fail (exN 0 0 [])).run s=(Zx E 7 1).run s:=rfl
theorem vT {k:Nat} (h1:1≤k) (h2:k≤7):r4 (k:Int)=prT (k:Int):=by
 have hk:k=1∨k=2∨k=3∨k=4∨k=5∨k=6∨k=7:=by omega
 rcases hk with rfl|rfl|rfl|rfl|rfl|rfl|rfl<;>rfl
theorem rY {k:Nat} (h1:1≤k) (h2:k≤7):1≤H7 (k:Int)∧H7 (k:Int)≤3:=by
 have hk:k=1∨k=2∨k=3∨k=4∨k=5∨k=6∨k=7:=by omega
 rcases hk with rfl|rfl|rfl|rfl|rfl|rfl|rfl<;>decide
theorem xG {k:Nat} (h:k≤7):decide ((k:Int)≤7)=true:=by simp;omega
theorem AA4 {k:Nat} (h:¬k≤7):decide ((k:Int)≤7)=false:=by simp;omega
theorem WO (k:Nat) (h1:1≤k) (h2:k≤7) (σ:AN):AQ Tryz.prog 147 [.d (.int .i64 (k:Int))] σ (fun v σ'=>v= .tup [.d (.str (prT (k:Int))),.d (.int .i64 ((H7 (k:Int):Nat):Int))]∧σ'=σ):=by
 have:=Uv (k:Int) σ
 rwa [vT h1 h2] at this
set_option maxHeartbeats 4000000 in
theorem vU (i:Nat) {L:List Tok} (hN:NOk L) (n:Nat) {E:PM Ex} (hE:PC 131 [.gp i 0] i L n E exA):PC 207 [.gp i 0] i L (n+1) (I6 E) exA:=by
 intro σ s0 g0 h0 l0 b0
 refine Ri (by simp) ?_
 rw [BE]
 have hpk:=Pv h0 σ b0
 rw [I6]
 simp only [eW,HY]
 cases hk3:s0.hd.kind==3 with
 |true=>
  simp only [if_true,run_bind,run_pure,exA,exN,Ex.A0,AF,AI]
  (have c0:=(bQ i hN (n+1)) σ s0 g0 h0 (by omega) b0;have h1:=h0.run (J4);have l1:=PM.le (J4) h0.wf;generalize (J4).run s0=y at c0 h1 l1 ⊢;obtain ⟨x0,s1⟩:=y;simp only at c0 h1 l1 ⊢;have b1:(σ.AM i (psA L s1)).blk i=some (psA L s1):=(by rw [AO,if_pos rfl]))
  (repeat' (first|refine Run.ct rfl ?_|((first|refine Run.reg mixed ?_|refine Run.AJ ?_|refine Run.A9 BL (AN.le_refl _) ?_|(refine AH.upd c0 ?_)|refine AH.det (hpk) ?_|(refine AR rfl (fun h=>?_) (fun h=>?_)<;>try (cases h;done)))<;>try simp -implicitDefEqProofs only [hk3,go_sem])|(refine ⟨fun h=>?_,fun h=>?_⟩<;>first|(cases h;done)|try simp only [h])|fail))
 |false=>
 cases hk1:s0.hd.kind==1 with
 |true=>
  simp only [if_true,if_false,AU,run_bind,run_pure,exA,exN,Ex.A0,AF,AI]
  (have c0:=(Ps i L (n+1)) σ s0 g0 h0 (by omega) b0;have h1:=h0.run (FB);have l1:=PM.le (FB) h0.wf;generalize (FB).run s0=y at c0 h1 l1 ⊢;obtain ⟨x0,s1⟩:=y;simp only at c0 h1 l1 ⊢;have b1:(σ.AM i (psA L s1)).blk i=some (psA L s1):=(by rw [AO,if_pos rfl]))
  (repeat' (first|refine Run.ct rfl ?_|((first|refine Run.reg mixed ?_|refine Run.AJ ?_|refine Run.A9 BL (AN.le_refl _) ?_|(refine AH.upd c0 ?_)|refine AH.det (hpk) ?_|(refine AR rfl (fun h=>?_) (fun h=>?_)<;>try (cases h;done)))<;>try simp -implicitDefEqProofs only [hk3,hk1,go_sem])|(refine ⟨fun h=>?_,fun h=>?_⟩<;>first|(cases h;done)|try simp only [h])|fail))
 |false=>
 cases hk2:s0.hd.kind==2 with
 |true=>
  simp only [if_true,if_false,AU,run_bind,run_pure,exA,exN,Ex.A0,AF,AI]
  (have c0:=(SW i L (n+1)) σ s0 g0 h0 (by omega) b0;have h1:=h0.run (FG);have l1:=PM.le (FG) h0.wf;generalize (FG).run s0=y at c0 h1 l1 ⊢;obtain ⟨x0,s1⟩:=y;simp only at c0 h1 l1 ⊢;have b1:(σ.AM i (psA L s1)).blk i=some (psA L s1):=(by rw [AO,if_pos rfl]))
  (have c1:=(UB i L n Ws hE).pc (σ.AM i (psA L s1)) s1 g0 h1 (by omega) b1;rw [A2] at c1;have h2:=h1.run (Ht E);have l2:=PM.le (Ht E) h1.wf;generalize (Ht E).run s1=y at c1 h2 l2 ⊢;obtain ⟨x1,s2⟩:=y;simp only at c1 h2 l2 ⊢;have b2:(σ.AM i (psA L s2)).blk i=some (psA L s2):=(by rw [AO,if_pos rfl]))
  (repeat' (first|refine Run.ct rfl ?_|((first|refine Run.reg mixed ?_|refine Run.AJ ?_|refine Run.A9 BL (AN.le_refl _) ?_|(refine AH.upd c0 ?_)|(refine AH.upd c1 ?_)|refine AH.det (hpk) ?_|(refine AR rfl (fun h=>?_) (fun h=>?_)<;>try (cases h;done)))<;>try simp -implicitDefEqProofs only [hk3,hk1,hk2,go_sem])|(refine ⟨fun h=>?_,fun h=>?_⟩<;>first|(cases h;done)|try simp only [h])|fail))
 |false=>
 simp only [if_false,AU]
 cases t1:s0.hd.text==[45] with
 |true=>
  simp only [if_true,run_bind,run_pure,exA,exN,Ex.A0,AF,AI]
  (have c0:=DG h0 [45] σ b0 t1;have h1:=h0.adv (t:=[45]) (by decide) t1;have l1:=BR h0.wf;generalize s0.adv=s1 at c0 h1 l1 ⊢;have b1:(σ.AM i (psA L s1)).blk i=some (psA L s1):=by rw [AO,if_pos rfl])
  have hk:=rJ hN h1
  (have c1:=(bQ i hN n) (σ.AM i (psA L s1)) s1 g0 h1 (by omega) b1;rw [A2] at c1;have h2:=h1.run (J4);have l2:=PM.le (J4) h1.wf;generalize (J4).run s1=y at c1 h2 l2 hk ⊢;obtain ⟨x1,s2⟩:=y;simp only at c1 h2 l2 hk ⊢;have b2:(σ.AM i (psA L s2)).blk i=some (psA L s2):=(by rw [AO,if_pos rfl]))
  have hng:=neg_num hk
  (repeat' (first|refine Run.ct rfl ?_|((first|refine Run.reg mixed ?_|refine Run.AJ ?_|refine Run.A9 BL (AN.le_refl _) ?_|(refine AH.upd c0 ?_)|(refine AH.upd c1 ?_)|refine AH.det (hpk) ?_|(refine AR rfl (fun h=>?_) (fun h=>?_)<;>try (cases h;done)))<;>try simp -implicitDefEqProofs only [hk3,hk1,hk2,hng,go_sem])|(refine ⟨fun h=>?_,fun h=>?_⟩<;>first|(cases h;done)|try simp only [h])|fail))
 |false=>
 have f1:=DF h0 _ σ b0 t1
 cases t2:s0.hd.text==[116,114,117,101] with
 |true=>
  simp only [if_true,if_false,AU,run_pure,exA,exN,Ex.A0,AF,AI]
  (have c0:=DG h0 [116,114,117,101] σ b0 t2;have h1:=h0.adv (t:=[116,114,117,101]) (by decide) t2;have l1:=BR h0.wf;generalize s0.adv=s1 at c0 h1 l1 ⊢;have b1:(σ.AM i (psA L s1)).blk i=some (psA L s1):=by rw [AO,if_pos rfl])
  (repeat' (first|refine Run.ct rfl ?_|((first|refine Run.reg mixed ?_|refine Run.AJ ?_|refine Run.A9 BL (AN.le_refl _) ?_|(refine AH.upd c0 ?_)|refine AH.det (hpk) ?_|refine AH.det (f1) ?_|(refine AR rfl (fun h=>?_) (fun h=>?_)<;>try (cases h;done)))<;>try simp -implicitDefEqProofs only [hk3,hk1,hk2,go_sem])|(refine ⟨fun h=>?_,fun h=>?_⟩<;>first|(cases h;done)|try simp only [h])|fail))
 |false=>
 have f2:=DF h0 _ σ b0 t2
 cases t3:s0.hd.text==[102,97,108,115,101] with
 |true=>
  simp only [if_true,if_false,AU,run_pure,exA,exN,Ex.A0,AF,AI]
  (have c0:=DG h0 [102,97,108,115,101] σ b0 t3;have h1:=h0.adv (t:=[102,97,108,115,101]) (by decide) t3;have l1:=BR h0.wf;generalize s0.adv=s1 at c0 h1 l1 ⊢;have b1:(σ.AM i (psA L s1)).blk i=some (psA L s1):=by rw [AO,if_pos rfl])
  (repeat' (first|refine Run.ct rfl ?_|((first|refine Run.reg mixed ?_|refine Run.AJ ?_|refine Run.A9 BL (AN.le_refl _) ?_|(refine AH.upd c0 ?_)|refine AH.det (hpk) ?_|refine AH.det (f1) ?_|refine AH.det (f2) ?_|(refine AR rfl (fun h=>?_) (fun h=>?_)<;>try (cases h;done)))<;>try simp -implicitDefEqProofs only [hk3,hk1,hk2,go_sem])|(refine ⟨fun h=>?_,fun h=>?_⟩<;>first|(cases h;done)|try simp only [h])|fail))
 |false=>
 have f3:=DF h0 _ σ b0 t3
 cases t4:s0.hd.text==[40] with
 |true=>
  simp only [if_true,if_false,AU]
  (have c0:=DG h0 [40] σ b0 t4;have h1:=h0.adv (t:=[40]) (by decide) t4;have l1:=BR h0.wf;generalize s0.adv=s1 at c0 h1 l1 ⊢;have b1:(σ.AM i (psA L s1)).blk i=some (psA L s1):=by rw [AO,if_pos rfl])
  (have c1:=(zG i L n hE) (σ.AM i (psA L s1)) s1 g0 h1 (by omega) b1;rw [A2] at c1;have h2:=h1.run (bU E);have l2:=PM.le (bU E) h1.wf;generalize (bU E).run s1=y at c1 h2 l2 ⊢;obtain ⟨x1,s2⟩:=y;simp only at c1 h2 l2 ⊢;have b2:(σ.AM i (psA L s2)).blk i=some (psA L s2):=(by rw [AO,if_pos rfl]);obtain ⟨o1,n1,u1,ns1,ks1,al1⟩:=x1;simp only [exA,Ex.A0,AF,AI] at c1 ⊢)
  (repeat' (first|refine Run.ct rfl ?_|((first|refine Run.reg mixed ?_|refine Run.AJ ?_|refine Run.A9 BL (AN.le_refl _) ?_|(refine AH.upd c0 ?_)|(refine AH.upd c1 ?_)|refine AH.det (hpk) ?_|refine AH.det (f1) ?_|refine AH.det (f2) ?_|refine AH.det (f3) ?_|(refine AR rfl (fun h=>?_) (fun h=>?_)<;>try (cases h;done)))<;>try simp -implicitDefEqProofs only [hk3,hk1,hk2,go_sem])|(refine ⟨fun h=>?_,fun h=>?_⟩<;>first|(cases h;done)|try simp only [h])|fail))
 |false=>
 have f4:=DF h0 _ σ b0 t4
 cases t5:s0.hd.text==[116,105,99,107] with
 |true=>
  simp only [if_true,if_false,AU]
  (have c0:=DG h0 [116,105,99,107] σ b0 t5;have h1:=h0.adv (t:=[116,105,99,107]) (by decide) t5;have l1:=BR h0.wf;generalize s0.adv=s1 at c0 h1 l1 ⊢;have b1:(σ.AM i (psA L s1)).blk i=some (psA L s1):=by rw [AO,if_pos rfl])
  (have c1:=(wI i hN n) (σ.AM i (psA L s1)) s1 g0 h1 (by omega) b1;rw [A2] at c1;have h2:=h1.run (Zu);have l2:=PM.le (Zu) h1.wf;generalize (Zu).run s1=y at c1 h2 l2 ⊢;obtain ⟨x1,s2⟩:=y;simp only at c1 h2 l2 ⊢;have b2:(σ.AM i (psA L s2)).blk i=some (psA L s2):=(by rw [AO,if_pos rfl]);obtain ⟨o1,n1,u1,ns1,ks1,al1⟩:=x1;simp only [exA,Ex.A0,AF,AI] at c1 ⊢)
  (repeat' (first|refine Run.ct rfl ?_|((first|refine Run.reg mixed ?_|refine Run.AJ ?_|refine Run.A9 BL (AN.le_refl _) ?_|(refine AH.upd c0 ?_)|(refine AH.upd c1 ?_)|refine AH.det (hpk) ?_|refine AH.det (f1) ?_|refine AH.det (f2) ?_|refine AH.det (f3) ?_|refine AH.det (f4) ?_|(refine AR rfl (fun h=>?_) (fun h=>?_)<;>try (cases h;done)))<;>try simp -implicitDefEqProofs only [hk3,hk1,hk2,go_sem])|(refine ⟨fun h=>?_,fun h=>?_⟩<;>first|(cases h;done)|try simp only [h])|fail))
 |false=>
 have f5:=DF h0 _ σ b0 t5
 cases t6:s0.hd.text==[114,97,105,115,101] with
 |true=>
  simp only [if_true,if_false,AU,run_bind,run_pure,yF,exA,exN,Ex.A0,AF,AI]
  (have c0:=DG h0 [114,97,105,115,101] σ b0 t6;have h1:=h0.adv (t:=[114,97,105,115,101]) (by decide) t6;have l1:=BR h0.wf;generalize s0.adv=s1 at c0 h1 l1 ⊢;have b1:(σ.AM i (psA L s1)).blk i=some (psA L s1):=by rw [AO,if_pos rfl])
  (have c1:=(j3 i L n hE 1 (by omega)) (σ.AM i (psA L s1)) s1 g0 h1 (by omega) b1;rw [A2] at c1;have h2:=h1.run (TO E 1);have l2:=PM.le (TO E 1) h1.wf;generalize (TO E 1).run s1=y at c1 h2 l2 ⊢;obtain ⟨x1,s2⟩:=y;simp only at c1 h2 l2 ⊢;have b2:(σ.AM i (psA L s2)).blk i=some (psA L s2):=(by rw [AO,if_pos rfl]))
  (repeat' (first|refine Run.ct rfl ?_|((first|refine Run.reg mixed ?_|refine Run.AJ ?_|refine Run.A9 BL (AN.le_refl _) ?_|(refine AH.upd c0 ?_)|(refine AH.upd c1 ?_)|refine AH.det (hpk) ?_|refine AH.det (f1) ?_|refine AH.det (f2) ?_|refine AH.det (f3) ?_|refine AH.det (f4) ?_|refine AH.det (f5) ?_|(refine AR rfl (fun h=>?_) (fun h=>?_)<;>try (cases h;done)))<;>try simp -implicitDefEqProofs only [hk3,hk1,hk2,go_sem])|(refine ⟨fun h=>?_,fun h=>?_⟩<;>first|(cases h;done)|try simp only [h])|fail))
 |false=>
 have f6:=DF h0 _ σ b0 t6
 simp only [if_false,AU]
 have hpl:=nW E s0
 simp only [HY] at hpl
 rw [hpl]
 clear hpl
 (repeat' (first|refine Run.ct rfl ?_|((first|refine Run.reg mixed ?_|refine Run.AJ ?_|refine AH.det (hpk) ?_|refine AH.det (f1) ?_|refine AH.det (f2) ?_|refine AH.det (f3) ?_|refine AH.det (f4) ?_|refine AH.det (f5) ?_|refine AH.det (f6) ?_|(refine AR rfl (fun h=>?_) (fun h=>?_)<;>try (cases h;done)))<;>try simp -implicitDefEqProofs only [hk3,hk1,hk2,go_sem])|(refine ⟨fun h=>?_,fun h=>?_⟩<;>first|(cases h;done)|try simp only [h])|fail))
 refine Run.Be ?_
 refine Run.Bn ((fun (a0:AV) (a2:AV)=>fun (k:Nat)=>put 0 a0 (put 2 a2 (put 5 (.d (.int .i64 (k:Nat))) U))) _ _) (fun _=>B0 2 [.d (.int .i64 0),.d (.str []),.d (.int .i64 0),.AX,.AX,.AX] Ab.E) (fun _=>σ) (fun k=>1≤k∧k≤8∧(Zx E (8 - k) k).run s0=(Zx E 7 1).run s0) (fun k=>8 - k) ?_ 1 ⟨by omega,by omega,rfl⟩
 rintro k ⟨q1,q2,q3⟩ ih
 by_cases hk7:k≤7
 · obtain ⟨m,hm⟩:∃m,8 - k=m+1:=⟨7 - k,by omega⟩
   have hpr:=WO k q1 hk7
   have hw:=Ba (a:=k) (by omega)
   rw [hm,Zx,HY] at q3
   cases ht:s0.hd.text==prT (k:Int) with
   |true=>
    rw [ht,if_pos rfl] at q3
    rw [← q3]
    have h13:=rY q1 hk7
    simp only [run_bind,run_pure,exA,exN,Ex.A0,AF,AI]
    have c0:=DG h0 (prT (k:Int)) σ b0 ht
    have h1:=h0.adv (rX (k:Int)) ht
    have l1:=BR h0.wf
    generalize s0.adv=s1 at c0 h1 l1 ⊢
    have b1:(σ.AM i (psA L s1)).blk i=some (psA L s1):=(by rw [AO,if_pos rfl])
    (have c1:=(j3 i L n hE (H7 (k:Int)) h13) (σ.AM i (psA L s1)) s1 g0 h1 (by omega) b1;rw [A2] at c1;have h2:=h1.run (TO E (H7 (k:Int)));have l2:=PM.le (TO E (H7 (k:Int))) h1.wf;generalize (TO E (H7 (k:Int))).run s1=y at c1 h2 l2 ⊢;obtain ⟨x1,s2⟩:=y;simp only at c1 h2 l2 ⊢;have b2:(σ.AM i (psA L s2)).blk i=some (psA L s2):=(by rw [AO,if_pos rfl]))
    (repeat' (first|refine Run.ct rfl ?_|((first|refine Run.reg mixed ?_|refine Run.AJ ?_|refine Run.A9 BL (AN.le_refl _) ?_|(refine AH.upd c0 ?_)|(refine AH.upd c1 ?_)|refine AH.det (hpr _) ?_|(refine AR rfl (fun h=>?_) (fun h=>?_)<;>try (cases h;done)))<;>try simp -implicitDefEqProofs only [xG hk7,go_sem])|(refine ⟨fun h=>?_,fun h=>?_⟩<;>first|(cases h;done)|try simp only [h])|fail))
   |false=>
    rw [ht,if_neg (by decide)] at q3
    have f7:=DF h0 _ σ b0 ht
    (repeat' (first|refine Run.ct rfl ?_|((first|refine Run.reg mixed ?_|refine Run.AJ ?_|refine AH.det (hpr _) ?_|refine AH.det (f7) ?_|(refine AR rfl (fun h=>?_) (fun h=>?_)<;>try (cases h;done)))<;>try simp -implicitDefEqProofs only [xG hk7,hw,go_sem])|(refine ⟨fun h=>?_,fun h=>?_⟩<;>first|(cases h;done)|try simp only [h])|fail))
    exact ih (k+1) ⟨by omega,by omega,by rw [show 8 - (k+1)=m by omega];exact q3⟩ (by omega)
 · have:k=8:=by omega
   subst this
   rw [← q3]
   have hp0:(Zx E (8 - 8) 8).run s0=(exN 0 0 [],s0.fail):=rfl
   rw [hp0]
   simp only [exA,exN,Ex.A0,AF,AI]
   (repeat' (first|refine Run.ct rfl ?_|((first|refine Run.reg mixed ?_|refine Run.AJ ?_|refine Run.A9 BL (AN.le_refl _) ?_|(refine AH.upd (Ub h0 σ b0) ?_)|(refine AR rfl (fun h=>?_) (fun h=>?_)<;>try (cases h;done)))<;>try simp -implicitDefEqProofs only [AA4 hk7,go_sem])|(refine ⟨fun h=>?_,fun h=>?_⟩<;>first|(cases h;done)|try simp only [h])|fail))
end Go.Ab
namespace Go.Ab
open Go.Proofs
theorem wH (i:Nat) (x:Str):WC 80 [.gp i 0,.d (.str x)] i x:=by
 intro σ0 σ s hH hbu hlen
 refine Qk (by simp) ?_
 rw [BI]
 (repeat' (first|refine Run.ct rfl ?_|((first|refine Run.reg mixed ?_|refine Run.AJ ?_|(refine AH.mk rfl (A4 x hbu hlen) ?_;rintro _ σ1 ⟨rfl,hb1⟩)|(refine AR rfl (fun h=>?_) (fun h=>?_)<;>try (cases h;done)))<;>try simp -implicitDefEqProofs only [go_sem])|(refine ⟨fun h=>?_,fun h=>?_⟩<;>first|(cases h;done)|try simp only [h])|fail))
 exact Run.fin Js rfl (fun _ _ h=>h) (AN.le_refl _) ⟨rfl,hb1⟩
theorem cW (i:Nat) (x:Str):WC 140 [.gp i 0,.d (.str x)] i (shown x):=by
 intro σ0 σ s hH hbu hlen
 refine Qe (by simp) ?_
 rw [BI]
 by_cases hx:x=[]
 · subst hx
   rw [shown,if_pos rfl] at hlen ⊢
   (repeat' (first|refine Run.ct rfl ?_|((first|refine Run.reg mixed ?_|refine Run.AJ ?_|(refine AH.mk rfl (A4 [95] hbu hlen) ?_;rintro _ σ1 ⟨rfl,hb1⟩)|(refine AR rfl (fun h=>?_) (fun h=>?_)<;>try (cases h;done)))<;>try simp -implicitDefEqProofs only [go_sem])|(refine ⟨fun h=>?_,fun h=>?_⟩<;>first|(cases h;done)|try simp only [h])|fail))
   exact Run.fin G6 rfl (fun _ _ h=>h) (AN.le_refl _) ⟨rfl,hb1⟩
 · rw [shown,if_neg hx] at hlen ⊢
   have he:(x==([]:Str))=false:=by cases x with|nil=>exact absurd rfl hx|cons a l=>rfl
   (repeat' (first|refine Run.ct rfl ?_|((first|refine Run.reg mixed ?_|refine Run.AJ ?_|(refine AH.mk rfl (A4 x hbu hlen) ?_;rintro _ σ1 ⟨rfl,hb1⟩)|(refine AR rfl (fun h=>?_) (fun h=>?_)<;>try (cases h;done)))<;>try simp -implicitDefEqProofs only [he,decide_eq_false hx,go_sem])|(refine ⟨fun h=>?_,fun h=>?_⟩<;>first|(cases h;done)|try simp only [h])|fail))
   exact Run.fin G6 rfl (fun _ _ h=>h) (AN.le_refl _) ⟨rfl,hb1⟩
set_option maxHeartbeats 2000000 in
theorem sX (i:Nat):∀(d:Nat) (t:TE),Bo d t=true→WC 84 [.gp i 0,teA t] i (Cv t)
 |0,t,h=>by simp [Bo] at h
 |d+1,.mk k n l,h=>by
  rw [Bo,AL,A5] at h
  obtain ⟨hsh,hall⟩:=h
  have hr:∀x∈l,WC 84 ([.gp i 0]++[teA x]++[]) i (Cv x):=fun x hx=>sX i d x (hall x hx)
  have hopt:=Hs (H:=fun _=>True) i (first:=[.gp i 0]) (caps:=[]) (by kernel_rfl:Ar Tryz.prog 84=true) ⟨rfl,rfl⟩ Cv l hr
  intro σ0 σ s hH hbu hlen
  rw [Cv,P5] at hlen ⊢
  refine Rm (by simp) ?_
  rw [BI]
  simp only [teA,TE.A0,AF,AI]
  by_cases h1:k=1
  · subst h1
    simp only [tyN,if_true] at hlen ⊢
    (repeat' (first|refine Run.ct rfl ?_|((first|refine Run.reg mixed ?_|refine Run.AJ ?_|(refine AH.mk rfl (A4 [105,110,116] hbu hlen) ?_;rintro _ σ1 ⟨rfl,hb1⟩)|(refine AR rfl (fun h=>?_) (fun h=>?_)<;>try (cases h;done)))<;>try simp -implicitDefEqProofs only [go_sem])|(refine ⟨fun h=>?_,fun h=>?_⟩<;>first|(cases h;done)|try simp only [h])|fail))
    exact Run.fin Bp rfl (fun _ _ h=>h) (AN.le_refl _) ⟨rfl,hb1⟩
  by_cases h2:k=2
  · subst h2
    have e:tyN 2 n (l.map Cv)=[98,111,111,108]:=rfl
    rw [e] at hlen ⊢
    (repeat' (first|refine Run.ct rfl ?_|((first|refine Run.reg mixed ?_|refine Run.AJ ?_|(refine AH.mk rfl (A4 [98,111,111,108] hbu hlen) ?_;rintro _ σ1 ⟨rfl,hb1⟩)|(refine AR rfl (fun h=>?_) (fun h=>?_)<;>try (cases h;done)))<;>try simp -implicitDefEqProofs only [go_sem])|(refine ⟨fun h=>?_,fun h=>?_⟩<;>first|(cases h;done)|try simp only [h])|fail))
    exact Run.fin Bp rfl (fun _ _ h=>h) (AN.le_refl _) ⟨rfl,hb1⟩
  by_cases h3:k=3
  · subst h3
    have e:tyN 3 n (l.map Cv)=[117,110,105,116]:=rfl
    rw [e] at hlen ⊢
    (repeat' (first|refine Run.ct rfl ?_|((first|refine Run.reg mixed ?_|refine Run.AJ ?_|(refine AH.mk rfl (A4 [117,110,105,116] hbu hlen) ?_;rintro _ σ1 ⟨rfl,hb1⟩)|(refine AR rfl (fun h=>?_) (fun h=>?_)<;>try (cases h;done)))<;>try simp -implicitDefEqProofs only [go_sem])|(refine ⟨fun h=>?_,fun h=>?_⟩<;>first|(cases h;done)|try simp only [h])|fail))
    exact Run.fin Bp rfl (fun _ _ h=>h) (AN.le_refl _) ⟨rfl,hb1⟩
  by_cases h7:k=7
  · subst h7
    have e:tyN 7 n (l.map Cv)=[97,114,114,97,121]++Ik (l.map Cv):=rfl
    rw [e,AA,← M1,← AA] at hlen
    rw [e,← AS]
    have hl1:s.length+([97,114,114,97,121]).length≤100000000000000:=by rw [AA] at hlen;omega
    (repeat' (first|refine Run.ct rfl ?_|((first|refine Run.reg mixed ?_|refine Run.AJ ?_|(refine AH.mk rfl (A4 [97,114,114,97,121] hbu hl1) ?_;rintro _ σ1 ⟨rfl,hb1⟩)|(refine AR rfl (fun h=>?_) (fun h=>?_)<;>try (cases h;done)))<;>try simp -implicitDefEqProofs only [go_sem])|(refine ⟨fun h=>?_,fun h=>?_⟩<;>first|(cases h;done)|try simp only [h])|fail))
    (repeat' (first|refine Run.ct rfl ?_|((first|refine Run.reg mixed ?_|refine Run.AJ ?_|(refine AH.mk rfl (hopt σ0 σ1 _ hH hb1 hlen) ?_;rintro _ σ2 ⟨rfl,hb2⟩)|(refine AR rfl (fun h=>?_) (fun h=>?_)<;>try (cases h;done)))<;>try simp -implicitDefEqProofs only [go_sem])|(refine ⟨fun h=>?_,fun h=>?_⟩<;>first|(cases h;done)|try simp only [h])|fail))
    exact Run.fin Bp rfl (fun _ _ h=>h) (AN.le_refl _) ⟨rfl,hb2⟩
  by_cases h8:k=8
  · subst h8
    have e:tyN 8 n (l.map Cv)=[114,101,102]++Ik (l.map Cv):=rfl
    rw [e,AA,← M1,← AA] at hlen
    rw [e,← AS]
    have hl1:s.length+([114,101,102]).length≤100000000000000:=by rw [AA] at hlen;omega
    (repeat' (first|refine Run.ct rfl ?_|((first|refine Run.reg mixed ?_|refine Run.AJ ?_|(refine AH.mk rfl (A4 [114,101,102] hbu hl1) ?_;rintro _ σ1 ⟨rfl,hb1⟩)|(refine AR rfl (fun h=>?_) (fun h=>?_)<;>try (cases h;done)))<;>try simp -implicitDefEqProofs only [go_sem])|(refine ⟨fun h=>?_,fun h=>?_⟩<;>first|(cases h;done)|try simp only [h])|fail))
    (repeat' (first|refine Run.ct rfl ?_|((first|refine Run.reg mixed ?_|refine Run.AJ ?_|(refine AH.mk rfl (hopt σ0 σ1 _ hH hb1 hlen) ?_;rintro _ σ2 ⟨rfl,hb2⟩)|(refine AR rfl (fun h=>?_) (fun h=>?_)<;>try (cases h;done)))<;>try simp -implicitDefEqProofs only [go_sem])|(refine ⟨fun h=>?_,fun h=>?_⟩<;>first|(cases h;done)|try simp only [h])|fail))
    exact Run.fin Bp rfl (fun _ _ h=>h) (AN.le_refl _) ⟨rfl,hb2⟩
  by_cases h9:k=9
  · subst h9
    have hne:l≠[]:=by
     intro e;subst e
     simp [Ct] at hsh
    obtain ⟨l,z,rfl⟩:∃l' z,l=l'++[z]:=⟨l.dropLast,l.getLast hne,(List.dropLast_concat_getLast hne).symm⟩
    have hsep:=H8 (H:=fun _=>True) i (first:=[.gp i 0]) (caps:=[]) (by kernel_rfl:Ar Tryz.prog 84=true) ⟨rfl,rfl⟩ [44,32] Cv l (fun x hx=>hr x (by simp [hx]))
    have hz:WC 84 [.gp i 0,teA z] i (Cv z):=hr z (by simp)
    have e:tyN 9 n ((l++[z]).map Cv)=[102,110,40]++(Lib.join (l.map Cv) [44,32]++([41,32,45,62,32]++Cv z)):=by
     show [102,110]++(Ij ((l++[z]).map Cv).dropLast++([32,45,62,32]++((l++[z]).map Cv).getLastD []))=_
     rw [BU,List.map_singleton,List.dropLast_concat,Ij,JT,cms,List.getLastD_concat]
     simp
    rw [e] at hlen ⊢
    simp only [AA,AD,AG] at hlen hsh
    have hl7:l.length≤7:=by
     have:Ct 9 n (l.length+1)=(n==[]&&decide (1≤l.length+1)&&decide (l.length+1≤7)):=rfl
     simp only [B7] at hsh
     rw [this,AL,AL,decide_eq_true_eq,decide_eq_true_eq] at hsh
     omega
    have hw:IntKind.i64.wrap (((l++[z]).length:Nat) - 1:Int)=((l.length:Nat):Int):=by
     rw [AA,List.length_singleton,Ax (by omega) (by omega)];omega
    have hzx:(l++[z])[l.length]?=some z:=by simp
    have he:=Bh (enc:=TE.enc) hzx
    have htk:cC ((l++[z]).map TE.enc) none (some (.d (.int .i64 (l.length:Int)))) none 3=some (.d (.sl (l.map TE.enc))):=by
     have h0:cC ((l++[z]).map TE.enc) none (some (.d (.int .i64 (l.length:Int)))) none 3=some (.d (.sl (((l++[z]).map TE.enc).take l.length))):=by simp [cC,W0,Uq]
     rw [h0,← List.map_take,KZ]
    obtain ⟨zk,zn,zl⟩:=z
    simp only [teA,TE.A0,AF,AI] at he hz
    (repeat' (first|refine Run.ct rfl ?_|((first|refine Run.reg mixed ?_|refine Run.AJ ?_|(refine AH.mk rfl (A4 [102,110,40] hbu (by simp only [AD,AG];omega)) ?_;rintro _ σ1 ⟨rfl,hb1⟩)|(refine AR rfl (fun h=>?_) (fun h=>?_)<;>try (cases h;done)))<;>try simp -implicitDefEqProofs only [hw,htk,AE,go_sem])|(refine ⟨fun h=>?_,fun h=>?_⟩<;>first|(cases h;done)|try simp only [h])|fail))
    (repeat' (first|refine Run.ct rfl ?_|((first|refine Run.reg mixed ?_|refine Run.AJ ?_|(refine AH.mk rfl (hsep σ0 σ1 _ hH hb1 (by simp only [AA,AD,AG];omega)) ?_;rintro _ σ2 ⟨rfl,hb2⟩)|(refine AR rfl (fun h=>?_) (fun h=>?_)<;>try (cases h;done)))<;>try simp -implicitDefEqProofs only [go_sem])|(refine ⟨fun h=>?_,fun h=>?_⟩<;>first|(cases h;done)|try simp only [h])|fail))
    (repeat' (first|refine Run.ct rfl ?_|((first|refine Run.reg mixed ?_|refine Run.AJ ?_|(refine AH.mk rfl (A4 [41,32,45,62,32] hb2 (by simp only [AA,AD,AG];omega)) ?_;rintro _ σ3 ⟨rfl,hb3⟩)|(refine AR rfl (fun h=>?_) (fun h=>?_)<;>try (cases h;done)))<;>try simp -implicitDefEqProofs only [he,go_sem])|(refine ⟨fun h=>?_,fun h=>?_⟩<;>first|(cases h;done)|try simp only [h])|fail))
    (repeat' (first|refine Run.ct rfl ?_|((first|refine Run.reg mixed ?_|refine Run.AJ ?_|(refine AH.mk rfl (hz σ0 σ3 _ hH hb3 (by simp only [AA,AD,AG];omega)) ?_;rintro _ σ4 ⟨rfl,hb4⟩)|(refine AR rfl (fun h=>?_) (fun h=>?_)<;>try (cases h;done)))<;>try simp -implicitDefEqProofs only [he,go_sem])|(refine ⟨fun h=>?_,fun h=>?_⟩<;>first|(cases h;done)|try simp only [h])|fail))
    simp only [AS] at hb4
    exact Run.fin Bp rfl (fun _ _ h=>h) (AN.le_refl _) ⟨rfl,hb4⟩
  have e:tyN k n (l.map Cv)=n++Ik (l.map Cv):=by rw [tyN,if_neg h1,if_neg h2,if_neg h3,if_neg h7,if_neg h8,if_neg h9]
  rw [e,AA,← M1,← AA] at hlen
  rw [e,← AS]
  have hl1:s.length+n.length≤100000000000000:=by rw [AA] at hlen;omega
  (repeat' (first|refine Run.ct rfl ?_|((first|refine Run.reg mixed ?_|refine Run.AJ ?_|(refine AH.mk rfl (A4 n hbu hl1) ?_;rintro _ σ1 ⟨rfl,hb1⟩)|(refine AR rfl (fun h=>?_) (fun h=>?_)<;>try (cases h;done)))<;>try simp -implicitDefEqProofs only [Cb h1,Cb h2,Cb h3,Cb h7,Cb h8,Cb h9,go_sem])|(refine ⟨fun h=>?_,fun h=>?_⟩<;>first|(cases h;done)|try simp only [h])|fail))
  (repeat' (first|refine Run.ct rfl ?_|((first|refine Run.reg mixed ?_|refine Run.AJ ?_|(refine AH.mk rfl (hopt σ0 σ1 _ hH hb1 hlen) ?_;rintro _ σ2 ⟨rfl,hb2⟩)|(refine AR rfl (fun h=>?_) (fun h=>?_)<;>try (cases h;done)))<;>try simp -implicitDefEqProofs only [go_sem])|(refine ⟨fun h=>?_,fun h=>?_⟩<;>first|(cases h;done)|try simp only [h])|fail))
  exact Run.fin Bp rfl (fun _ _ h=>h) (AN.le_refl _) ⟨rfl,hb2⟩
end Go.Ab
