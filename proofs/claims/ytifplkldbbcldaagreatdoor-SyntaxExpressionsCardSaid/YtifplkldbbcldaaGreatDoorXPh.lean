/- The parser: expressions of the highest level. The printer: text, bind, types. Conditions: none. -/
import Derived.Test.YtifplkldbbcldaaGreatDoorXUc
set_option linter.unusedSimpArgs false
set_option linter.unusedVariables false
set_option maxRecDepth 4000
set_option maxHeartbeats 8000000
open List renaming map_cons→AF,map_nil→AI,length_map→AG,length_cons→AB,length_nil→AE,all_eq_true→A7,length_append→AA,append_assoc→AT,map_append→Bp,take_left→Ke
open Bool renaming false_eq_true→AW,and_eq_true→AN
open Nat renaming add_assoc→Mn,zero_add→Bb
namespace Go.Ab
open Go.Proofs
theorem wF {n:Int} (h0: -9223372036854775808≤n) (h1:n≤9223372036854775807):IntKind.i64.wrap n=n:=by
 rcases Int.le_total 0 n with h|h
 · exact BF h h1
 · unfold IntKind.wrap
   simp only [IntKind.signed,IntKind.bits]
   rcases Int.lt_or_le n 0 with h2|h2
   · have e:n % (2 ^ 64:Int)=n+18446744073709551616:=by omega
     simp only [e]
     rw [if_pos (by simp;omega)]
     omega
   · have:n=0:=by omega
     subst this;rfl
theorem neg_num {x:Int} (h:0≤x∧x≤1000000):IntKind.i64.wrap (0 - x)=-x:=by rw [wF (by omega) (by omega)];omega
theorem uO {L:List Tok} {s:PSt} (hN:NOk L) (hs:POk L s):0≤(Je.run s).1∧(Je.run s).1≤1000000:=n9 (jC hN hs)
theorem y5 (i:Nat) {L:List Tok} (hN:NOk L) (n:Nat):PC 212 [.gp i 0] i L n cG exA:=by
 intro σ s0 g0 h0 l0 b0
 refine SQ (by simp) ?_
 rw [Av]
 simp only [cG,run_bind,run_pure,exA,exN,Ex.A2,AF,AI]
 (have c0:=(DL i L n [40] (by decide)) σ s0 g0 h0 (by omega) b0;have h1:=h0.run (PM.exp [40] (by decide));have l1:=PM.le (PM.exp [40] (by decide)) h0.wf;generalize (PM.exp [40] (by decide)).run s0=y at c0 h1 l1 ⊢;obtain ⟨x0,s1⟩:=y;simp only at c0 h1 l1 ⊢;have b1:(σ.AL i (psA L s1)).blk i=some (psA L s1):=(by rw [AO,if_pos rfl]))
 cases t1:s1.hd.text==[45] with
 |true=>
  have hr:(EX [45] (Je.map fun n=>-n) Je).run s1=(-(Je.run s1.adv).1,(Je.run s1.adv).2):=if_pos t1
  rw [hr]
  simp only
  (have c1:=DK h1 [45] (σ.AL i (psA L s1)) b1 t1;rw [A4] at c1;have h2:=h1.adv (t:=[45]) (by decide) t1;have l2:=BX h1.wf;generalize s1.adv=s2 at c1 h2 l2 ⊢;have b2:(σ.AL i (psA L s2)).blk i=some (psA L s2):=by rw [AO,if_pos rfl])
  have hk:=uO hN h2
  (have c2:=(eE i hN n) (σ.AL i (psA L s2)) s2 g0 h2 (by omega) b2;rw [A4] at c2;have h3:=h2.run (Je);have l3:=PM.le (Je) h2.wf;generalize (Je).run s2=y at c2 h3 l3 hk ⊢;obtain ⟨x2,s3⟩:=y;simp only at c2 h3 l3 hk ⊢;have b3:(σ.AL i (psA L s3)).blk i=some (psA L s3):=(by rw [AO,if_pos rfl]))
  have hng:=neg_num hk
  (have c3:=(DL i L n [41] (by decide)) (σ.AL i (psA L s3)) s3 g0 h3 (by omega) b3;rw [A4] at c3;have h4:=h3.run (PM.exp [41] (by decide));have l4:=PM.le (PM.exp [41] (by decide)) h3.wf;generalize (PM.exp [41] (by decide)).run s3=y at c3 h4 l4 ⊢;obtain ⟨x3,s4⟩:=y;simp only at c3 h4 l4 ⊢;have b4:(σ.AL i (psA L s4)).blk i=some (psA L s4):=(by rw [AO,if_pos rfl]))
  (repeat' (first|refine Run.ct rfl ?_|((first|refine Run.reg mixed ?_|refine Run.AJ ?_|refine Run.Ad HP (AM.le_refl _) ?_|(refine AH.upd c0 ?_)|(refine AH.upd c1 ?_)|(refine AH.upd c2 ?_)|(refine AH.upd c3 ?_)|(refine AQ rfl (fun h=>?_) (fun h=>?_)<;>try (cases h;done)))<;>try simp -implicitDefEqProofs only [hng,go_sem])|(refine ⟨fun h=>?_,fun h=>?_⟩<;>first|(cases h;done)|try simp only [h])|fail))
 |false=>
  have hr:(EX [45] (Je.map fun n=>-n) Je).run s1=Je.run s1:=if_neg (by rw [t1];decide)
  rw [hr]
  have f1:=DJ h1 [45] (σ.AL i (psA L s1)) b1 t1
  (have c1:=(eE i hN n) (σ.AL i (psA L s1)) s1 g0 h1 (by omega) b1;rw [A4] at c1;have h2:=h1.run (Je);have l2:=PM.le (Je) h1.wf;generalize (Je).run s1=y at c1 h2 l2 ⊢;obtain ⟨x1,s2⟩:=y;simp only at c1 h2 l2 ⊢;have b2:(σ.AL i (psA L s2)).blk i=some (psA L s2):=(by rw [AO,if_pos rfl]))
  (have c2:=(DL i L n [41] (by decide)) (σ.AL i (psA L s2)) s2 g0 h2 (by omega) b2;rw [A4] at c2;have h3:=h2.run (PM.exp [41] (by decide));have l3:=PM.le (PM.exp [41] (by decide)) h2.wf;generalize (PM.exp [41] (by decide)).run s2=y at c2 h3 l3 ⊢;obtain ⟨x2,s3⟩:=y;simp only at c2 h3 l3 ⊢;have b3:(σ.AL i (psA L s3)).blk i=some (psA L s3):=(by rw [AO,if_pos rfl]))
  (repeat' (first|refine Run.ct rfl ?_|((first|refine Run.reg mixed ?_|refine Run.AJ ?_|refine Run.Ad HP (AM.le_refl _) ?_|(refine AH.upd c0 ?_)|(refine AH.upd c1 ?_)|(refine AH.upd c2 ?_)|refine AH.det (f1) ?_|(refine AQ rfl (fun h=>?_) (fun h=>?_)<;>try (cases h;done)))<;>try simp -implicitDefEqProofs only [go_sem])|(refine ⟨fun h=>?_,fun h=>?_⟩<;>first|(cases h;done)|try simp only [h])|fail))
theorem Xb:Aw Tryz.prog 131=true:=by kernel_rfl
theorem Ex.xP (e:Ex):e.enc.length=6:=by cases e;rw [Ex.A2];rfl
theorem ABT (i:Nat) (L:List Tok) (n:Nat) {E:PM Ex} (hE:PC 131 [.gp i 0] i L n E exA):PC 211 [.gp i 0] i L n (eH E) exA:=by
 intro σ s0 g0 h0 l0 b0
 refine M7 (by simp) ?_
 rw [Av]
 simp only [eH,H5]
 cases t0:s0.hd.text==[41] with
 |true=>
  simp only [if_true,run_pure,exA,exN,Ex.A2,AF,AI]
  (have c0:=DK h0 [41] σ b0 t0;have h1:=h0.adv (t:=[41]) (by decide) t0;have l1:=BX h0.wf;generalize s0.adv=s1 at c0 h1 l1 ⊢;have b1:(σ.AL i (psA L s1)).blk i=some (psA L s1):=by rw [AO,if_pos rfl])
  (repeat' (first|refine Run.ct rfl ?_|((first|refine Run.reg mixed ?_|refine Run.AJ ?_|refine Run.Ad CK (AM.le_refl _) ?_|(refine AH.upd c0 ?_)|(refine AQ rfl (fun h=>?_) (fun h=>?_)<;>try (cases h;done)))<;>try simp -implicitDefEqProofs only [go_sem])|(refine ⟨fun h=>?_,fun h=>?_⟩<;>first|(cases h;done)|try simp only [h])|fail))
 |false=>
  have f0:=DJ h0 _ σ b0 t0
  simp only [if_false,AW,run_bind,H5]
  (have c0:=hE σ s0 g0 h0 (by omega) b0;have h1:=h0.run (E);have l1:=PM.le (E) h0.wf;generalize (E).run s0=y at c0 h1 l1 ⊢;obtain ⟨x0,s1⟩:=y;simp only at c0 h1 l1 ⊢;have b1:(σ.AL i (psA L s1)).blk i=some (psA L s1):=(by rw [AO,if_pos rfl]);obtain ⟨o0,n0,u0,ns0,ks0,al0⟩:=x0;simp only [exA,Ex.A2,AF,AI] at c0 ⊢)
  cases t1:s1.hd.text==[41] with
  |true=>
   simp only [if_true,run_pure,exA,Ex.A2,AF,AI]
   (have c1:=DK h1 [41] (σ.AL i (psA L s1)) b1 t1;rw [A4] at c1;have h2:=h1.adv (t:=[41]) (by decide) t1;have l2:=BX h1.wf;generalize s1.adv=s2 at c1 h2 l2 ⊢;have b2:(σ.AL i (psA L s2)).blk i=some (psA L s2):=by rw [AO,if_pos rfl])
   (repeat' (first|refine Run.ct rfl ?_|((first|refine Run.reg mixed ?_|refine Run.AJ ?_|refine Run.Ad CK (AM.le_refl _) ?_|(refine AH.upd c0 ?_)|(refine AH.upd c1 ?_)|refine AH.det (f0) ?_|(refine AQ rfl (fun h=>?_) (fun h=>?_)<;>try (cases h;done)))<;>try simp -implicitDefEqProofs only [go_sem])|(refine ⟨fun h=>?_,fun h=>?_⟩<;>first|(cases h;done)|try simp only [h])|fail))
  |false=>
   have f1:=DJ h1 _ (σ.AL i (psA L s1)) b1 t1
   simp only [if_false,AW,run_bind,run_pure,exA,exN,Ex.A2,AF,AI]
   (have c1:=(DL i L n [44] (by decide)) (σ.AL i (psA L s1)) s1 g0 h1 (by omega) b1;rw [A4] at c1;have h2:=h1.run (PM.exp [44] (by decide));have l2:=PM.le (PM.exp [44] (by decide)) h1.wf;generalize (PM.exp [44] (by decide)).run s1=y at c1 h2 l2 ⊢;obtain ⟨x1,s2⟩:=y;simp only at c1 h2 l2 ⊢;have b2:(σ.AL i (psA L s2)).blk i=some (psA L s2):=(by rw [AO,if_pos rfl]))
   (have d2:=fun tk:Nat=>(GQ i L n Xb hE).pc ((σ.AL i (psA L s2)).D7 tk) s2 g0 h2 (by omega) (by rw [GJ];exact b2);have c2:=(GQ i L n Xb hE).pc (σ.AL i (psA L s2)) s2 g0 h2 (by omega) b2;rw [A4] at c2;have h3:=h2.run (listed E);have l3:=PM.le (listed E) h2.wf;have n2:=QP (read:=E) h2.wf;generalize (listed E).run s2=y at c2 d2 h3 l3 n2 ⊢;obtain ⟨x2,s3⟩:=y;simp only at c2 d2 h3 l3 n2 ⊢;have q2:=h0.suf.length_le;have q2':=h0.len)
   (repeat' (first|refine Run.ct rfl ?_|((first|refine Run.reg mixed ?_|refine Run.AJ ?_|(refine AH.upd c0 ?_)|(refine AH.upd c1 ?_)|refine AH.det (f0) ?_|refine AH.det (f1) ?_|(refine AQ rfl (fun h=>?_) (fun h=>?_)<;>try (cases h;done)))<;>try simp -implicitDefEqProofs only [go_sem])|(refine ⟨fun h=>?_,fun h=>?_⟩<;>first|(cases h;done)|try simp only [h])|fail))
   refine Run.FZ mixed ?_;simp -implicitDefEqProofs only [go_sem]
   refine ⟨?_,?_⟩
   · refine I3.own rfl (by decide) (fun tk htk=>?_);simp -implicitDefEqProofs only [go_sem]
     refine AH.upd (d2 tk) ?_;simp -implicitDefEqProofs only [go_sem]
     (apply LS.tok (LS.xW htk s3);rfl;exact (NU _ _ Ex.xP);(simp only [AG,AB,AE];omega);decide;intro v2 τ2 ho);simp -implicitDefEqProofs only [ho.own.BR,ho.own.Ay,ho.own.cells,ho.own.cell,ho.own.plain,ho.own.dv,if_true,go_sem]
     (repeat' (first|refine Run.ct rfl ?_|((first|refine Run.reg mixed ?_|refine Run.AJ ?_|(refine Run.Ad CK ho.le ?_)|(refine AQ rfl (fun h=>?_) (fun h=>?_)<;>try (cases h;done)))<;>try simp -implicitDefEqProofs only [ho.own.BR,ho.own.Ay,ho.own.cells,ho.own.cell,ho.own.plain,ho.own.dv,if_true,go_sem])|(refine ⟨fun h=>?_,fun h=>?_⟩<;>first|(cases h;done)|try simp only [h])|fail))
   · refine AH.upd c2 ?_;simp -implicitDefEqProofs only [go_sem]
     refine I3.own rfl (by decide) (fun tk htk=>?_);simp -implicitDefEqProofs only [go_sem]
     (apply LS.tok (LS.xV htk);rfl;exact (NU _ _ Ex.xP);(simp only [AG,AB,AE];omega);decide;intro v2 τ2 ho);simp -implicitDefEqProofs only [ho.own.BR,ho.own.Ay,ho.own.cells,ho.own.cell,ho.own.plain,ho.own.dv,if_true,go_sem]
     (repeat' (first|refine Run.ct rfl ?_|((first|refine Run.reg mixed ?_|refine Run.AJ ?_|(refine Run.Ad CK ho.le ?_)|(refine AQ rfl (fun h=>?_) (fun h=>?_)<;>try (cases h;done)))<;>try simp -implicitDefEqProofs only [ho.own.BR,ho.own.Ay,ho.own.cells,ho.own.cell,ho.own.plain,ho.own.dv,if_true,go_sem])|(refine ⟨fun h=>?_,fun h=>?_⟩<;>first|(cases h;done)|try simp only [h])|fail))
theorem vA (k:Int):prT k≠[]:=by
 unfold prT
 repeat' split
 all_goals simp
def cJ (E:PM Ex):Nat→Nat→PM Ex
 |0,_=>.fail (exN 0 0 [])
 |n+1,k=>.acc (prT (k:Int)) (vA (k:Int)) ((Ti E (He (k:Int))).bind fun l=>.pure (exN 14 (k:Int) l)) (cJ E n (k+1))
theorem q8 (E:PM Ex) (s:PSt):(EX [110,101,119] ((S4 E).bind fun l=>.pure (exN 14 1 l)) <|
 EX [103,101,116] ((S4 E).bind fun l=>.pure (exN 14 2 l)) <|
 EX [115,101,116] ((eG E).bind fun l=>.pure (exN 14 3 l)) <|
 EX [108,101,110] ((O2 E).bind fun l=>.pure (exN 14 4 l)) <|
 EX [114,101,102] ((O2 E).bind fun l=>.pure (exN 14 5 l)) <|
 EX [114,101,97,100] ((O2 E).bind fun l=>.pure (exN 14 6 l)) <|
 EX [119,114,105,116,101] ((S4 E).bind fun l=>.pure (exN 14 7 l)) <|
 .fail (exN 0 0 [])).run s=(cJ E 7 1).run s:=rfl
theorem yM {k:Nat} (h1:1≤k) (h2:k≤7):vD (k:Int)=prT (k:Int):=by
 have hk:k=1∨k=2∨k=3∨k=4∨k=5∨k=6∨k=7:=by omega
 rcases hk with rfl|rfl|rfl|rfl|rfl|rfl|rfl<;>rfl
theorem vB {k:Nat} (h1:1≤k) (h2:k≤7):1≤He (k:Int)∧He (k:Int)≤3:=by
 have hk:k=1∨k=2∨k=3∨k=4∨k=5∨k=6∨k=7:=by omega
 rcases hk with rfl|rfl|rfl|rfl|rfl|rfl|rfl<;>decide
theorem z1 {k:Nat} (h:k≤7):decide ((k:Int)≤7)=true:=by simp;omega
theorem ADC {k:Nat} (h:¬k≤7):decide ((k:Int)≤7)=false:=by simp;omega
theorem Wv (k:Nat) (h1:1≤k) (h2:k≤7) (σ:AM):AP Tryz.prog 147 [.d (.int .i64 (k:Int))] σ (fun v σ'=>v= .tup [.d (.str (prT (k:Int))),.d (.int .i64 ((He (k:Int):Nat):Int))]∧σ'=σ):=by
 have:=V8 (k:Int) σ
 rwa [yM h1 h2] at this
set_option maxHeartbeats 4000000 in
theorem yN (i:Nat) {L:List Tok} (hN:NOk L) (n:Nat) {E:PM Ex} (hE:PC 131 [.gp i 0] i L n E exA):PC 207 [.gp i 0] i L (n+1) (Ih E) exA:=by
 intro σ s0 g0 h0 l0 b0
 refine SN (by simp) ?_
 rw [Av]
 have hpk:=QU h0 σ b0
 rw [Ih]
 simp only [iU,H5]
 cases hk3:s0.hd.kind==3 with
 |true=>
  simp only [if_true,run_bind,run_pure,exA,exN,Ex.A2,AF,AI]
  (have c0:=(eE i hN (n+1)) σ s0 g0 h0 (by omega) b0;have h1:=h0.run (Je);have l1:=PM.le (Je) h0.wf;generalize (Je).run s0=y at c0 h1 l1 ⊢;obtain ⟨x0,s1⟩:=y;simp only at c0 h1 l1 ⊢;have b1:(σ.AL i (psA L s1)).blk i=some (psA L s1):=(by rw [AO,if_pos rfl]))
  (repeat' (first|refine Run.ct rfl ?_|((first|refine Run.reg mixed ?_|refine Run.AJ ?_|refine Run.Ad BO (AM.le_refl _) ?_|(refine AH.upd c0 ?_)|refine AH.det (hpk) ?_|(refine AQ rfl (fun h=>?_) (fun h=>?_)<;>try (cases h;done)))<;>try simp -implicitDefEqProofs only [hk3,go_sem])|(refine ⟨fun h=>?_,fun h=>?_⟩<;>first|(cases h;done)|try simp only [h])|fail))
 |false=>
 cases hk1:s0.hd.kind==1 with
 |true=>
  simp only [if_true,if_false,AW,run_bind,run_pure,exA,exN,Ex.A2,AF,AI]
  (have c0:=(QR i L (n+1)) σ s0 g0 h0 (by omega) b0;have h1:=h0.run (Fj);have l1:=PM.le (Fj) h0.wf;generalize (Fj).run s0=y at c0 h1 l1 ⊢;obtain ⟨x0,s1⟩:=y;simp only at c0 h1 l1 ⊢;have b1:(σ.AL i (psA L s1)).blk i=some (psA L s1):=(by rw [AO,if_pos rfl]))
  (repeat' (first|refine Run.ct rfl ?_|((first|refine Run.reg mixed ?_|refine Run.AJ ?_|refine Run.Ad BO (AM.le_refl _) ?_|(refine AH.upd c0 ?_)|refine AH.det (hpk) ?_|(refine AQ rfl (fun h=>?_) (fun h=>?_)<;>try (cases h;done)))<;>try simp -implicitDefEqProofs only [hk3,hk1,go_sem])|(refine ⟨fun h=>?_,fun h=>?_⟩<;>first|(cases h;done)|try simp only [h])|fail))
 |false=>
 cases hk2:s0.hd.kind==2 with
 |true=>
  simp only [if_true,if_false,AW,run_bind,run_pure,exA,exN,Ex.A2,AF,AI]
  (have c0:=(Ss i L (n+1)) σ s0 g0 h0 (by omega) b0;have h1:=h0.run (FY);have l1:=PM.le (FY) h0.wf;generalize (FY).run s0=y at c0 h1 l1 ⊢;obtain ⟨x0,s1⟩:=y;simp only at c0 h1 l1 ⊢;have b1:(σ.AL i (psA L s1)).blk i=some (psA L s1):=(by rw [AO,if_pos rfl]))
  (have c1:=(Ud i L n Xb hE).pc (σ.AL i (psA L s1)) s1 g0 h1 (by omega) b1;rw [A4] at c1;have h2:=h1.run (IZ E);have l2:=PM.le (IZ E) h1.wf;generalize (IZ E).run s1=y at c1 h2 l2 ⊢;obtain ⟨x1,s2⟩:=y;simp only at c1 h2 l2 ⊢;have b2:(σ.AL i (psA L s2)).blk i=some (psA L s2):=(by rw [AO,if_pos rfl]))
  (repeat' (first|refine Run.ct rfl ?_|((first|refine Run.reg mixed ?_|refine Run.AJ ?_|refine Run.Ad BO (AM.le_refl _) ?_|(refine AH.upd c0 ?_)|(refine AH.upd c1 ?_)|refine AH.det (hpk) ?_|(refine AQ rfl (fun h=>?_) (fun h=>?_)<;>try (cases h;done)))<;>try simp -implicitDefEqProofs only [hk3,hk1,hk2,go_sem])|(refine ⟨fun h=>?_,fun h=>?_⟩<;>first|(cases h;done)|try simp only [h])|fail))
 |false=>
 simp only [if_false,AW]
 cases t1:s0.hd.text==[45] with
 |true=>
  simp only [if_true,run_bind,run_pure,exA,exN,Ex.A2,AF,AI]
  (have c0:=DK h0 [45] σ b0 t1;have h1:=h0.adv (t:=[45]) (by decide) t1;have l1:=BX h0.wf;generalize s0.adv=s1 at c0 h1 l1 ⊢;have b1:(σ.AL i (psA L s1)).blk i=some (psA L s1):=by rw [AO,if_pos rfl])
  have hk:=uO hN h1
  (have c1:=(eE i hN n) (σ.AL i (psA L s1)) s1 g0 h1 (by omega) b1;rw [A4] at c1;have h2:=h1.run (Je);have l2:=PM.le (Je) h1.wf;generalize (Je).run s1=y at c1 h2 l2 hk ⊢;obtain ⟨x1,s2⟩:=y;simp only at c1 h2 l2 hk ⊢;have b2:(σ.AL i (psA L s2)).blk i=some (psA L s2):=(by rw [AO,if_pos rfl]))
  have hng:=neg_num hk
  (repeat' (first|refine Run.ct rfl ?_|((first|refine Run.reg mixed ?_|refine Run.AJ ?_|refine Run.Ad BO (AM.le_refl _) ?_|(refine AH.upd c0 ?_)|(refine AH.upd c1 ?_)|refine AH.det (hpk) ?_|(refine AQ rfl (fun h=>?_) (fun h=>?_)<;>try (cases h;done)))<;>try simp -implicitDefEqProofs only [hk3,hk1,hk2,hng,go_sem])|(refine ⟨fun h=>?_,fun h=>?_⟩<;>first|(cases h;done)|try simp only [h])|fail))
 |false=>
 have f1:=DJ h0 _ σ b0 t1
 cases t2:s0.hd.text==[116,114,117,101] with
 |true=>
  simp only [if_true,if_false,AW,run_pure,exA,exN,Ex.A2,AF,AI]
  (have c0:=DK h0 [116,114,117,101] σ b0 t2;have h1:=h0.adv (t:=[116,114,117,101]) (by decide) t2;have l1:=BX h0.wf;generalize s0.adv=s1 at c0 h1 l1 ⊢;have b1:(σ.AL i (psA L s1)).blk i=some (psA L s1):=by rw [AO,if_pos rfl])
  (repeat' (first|refine Run.ct rfl ?_|((first|refine Run.reg mixed ?_|refine Run.AJ ?_|refine Run.Ad BO (AM.le_refl _) ?_|(refine AH.upd c0 ?_)|refine AH.det (hpk) ?_|refine AH.det (f1) ?_|(refine AQ rfl (fun h=>?_) (fun h=>?_)<;>try (cases h;done)))<;>try simp -implicitDefEqProofs only [hk3,hk1,hk2,go_sem])|(refine ⟨fun h=>?_,fun h=>?_⟩<;>first|(cases h;done)|try simp only [h])|fail))
 |false=>
 have f2:=DJ h0 _ σ b0 t2
 cases t3:s0.hd.text==[102,97,108,115,101] with
 |true=>
  simp only [if_true,if_false,AW,run_pure,exA,exN,Ex.A2,AF,AI]
  (have c0:=DK h0 [102,97,108,115,101] σ b0 t3;have h1:=h0.adv (t:=[102,97,108,115,101]) (by decide) t3;have l1:=BX h0.wf;generalize s0.adv=s1 at c0 h1 l1 ⊢;have b1:(σ.AL i (psA L s1)).blk i=some (psA L s1):=by rw [AO,if_pos rfl])
  (repeat' (first|refine Run.ct rfl ?_|((first|refine Run.reg mixed ?_|refine Run.AJ ?_|refine Run.Ad BO (AM.le_refl _) ?_|(refine AH.upd c0 ?_)|refine AH.det (hpk) ?_|refine AH.det (f1) ?_|refine AH.det (f2) ?_|(refine AQ rfl (fun h=>?_) (fun h=>?_)<;>try (cases h;done)))<;>try simp -implicitDefEqProofs only [hk3,hk1,hk2,go_sem])|(refine ⟨fun h=>?_,fun h=>?_⟩<;>first|(cases h;done)|try simp only [h])|fail))
 |false=>
 have f3:=DJ h0 _ σ b0 t3
 cases t4:s0.hd.text==[40] with
 |true=>
  simp only [if_true,if_false,AW]
  (have c0:=DK h0 [40] σ b0 t4;have h1:=h0.adv (t:=[40]) (by decide) t4;have l1:=BX h0.wf;generalize s0.adv=s1 at c0 h1 l1 ⊢;have b1:(σ.AL i (psA L s1)).blk i=some (psA L s1):=by rw [AO,if_pos rfl])
  (have c1:=(ABT i L n hE) (σ.AL i (psA L s1)) s1 g0 h1 (by omega) b1;rw [A4] at c1;have h2:=h1.run (eH E);have l2:=PM.le (eH E) h1.wf;generalize (eH E).run s1=y at c1 h2 l2 ⊢;obtain ⟨x1,s2⟩:=y;simp only at c1 h2 l2 ⊢;have b2:(σ.AL i (psA L s2)).blk i=some (psA L s2):=(by rw [AO,if_pos rfl]);obtain ⟨o1,n1,u1,ns1,ks1,al1⟩:=x1;simp only [exA,Ex.A2,AF,AI] at c1 ⊢)
  (repeat' (first|refine Run.ct rfl ?_|((first|refine Run.reg mixed ?_|refine Run.AJ ?_|refine Run.Ad BO (AM.le_refl _) ?_|(refine AH.upd c0 ?_)|(refine AH.upd c1 ?_)|refine AH.det (hpk) ?_|refine AH.det (f1) ?_|refine AH.det (f2) ?_|refine AH.det (f3) ?_|(refine AQ rfl (fun h=>?_) (fun h=>?_)<;>try (cases h;done)))<;>try simp -implicitDefEqProofs only [hk3,hk1,hk2,go_sem])|(refine ⟨fun h=>?_,fun h=>?_⟩<;>first|(cases h;done)|try simp only [h])|fail))
 |false=>
 have f4:=DJ h0 _ σ b0 t4
 cases t5:s0.hd.text==[116,105,99,107] with
 |true=>
  simp only [if_true,if_false,AW]
  (have c0:=DK h0 [116,105,99,107] σ b0 t5;have h1:=h0.adv (t:=[116,105,99,107]) (by decide) t5;have l1:=BX h0.wf;generalize s0.adv=s1 at c0 h1 l1 ⊢;have b1:(σ.AL i (psA L s1)).blk i=some (psA L s1):=by rw [AO,if_pos rfl])
  (have c1:=(y5 i hN n) (σ.AL i (psA L s1)) s1 g0 h1 (by omega) b1;rw [A4] at c1;have h2:=h1.run (cG);have l2:=PM.le (cG) h1.wf;generalize (cG).run s1=y at c1 h2 l2 ⊢;obtain ⟨x1,s2⟩:=y;simp only at c1 h2 l2 ⊢;have b2:(σ.AL i (psA L s2)).blk i=some (psA L s2):=(by rw [AO,if_pos rfl]);obtain ⟨o1,n1,u1,ns1,ks1,al1⟩:=x1;simp only [exA,Ex.A2,AF,AI] at c1 ⊢)
  (repeat' (first|refine Run.ct rfl ?_|((first|refine Run.reg mixed ?_|refine Run.AJ ?_|refine Run.Ad BO (AM.le_refl _) ?_|(refine AH.upd c0 ?_)|(refine AH.upd c1 ?_)|refine AH.det (hpk) ?_|refine AH.det (f1) ?_|refine AH.det (f2) ?_|refine AH.det (f3) ?_|refine AH.det (f4) ?_|(refine AQ rfl (fun h=>?_) (fun h=>?_)<;>try (cases h;done)))<;>try simp -implicitDefEqProofs only [hk3,hk1,hk2,go_sem])|(refine ⟨fun h=>?_,fun h=>?_⟩<;>first|(cases h;done)|try simp only [h])|fail))
 |false=>
 have f5:=DJ h0 _ σ b0 t5
 cases t6:s0.hd.text==[114,97,105,115,101] with
 |true=>
  simp only [if_true,if_false,AW,run_bind,run_pure,AAW,exA,exN,Ex.A2,AF,AI]
  (have c0:=DK h0 [114,97,105,115,101] σ b0 t6;have h1:=h0.adv (t:=[114,97,105,115,101]) (by decide) t6;have l1:=BX h0.wf;generalize s0.adv=s1 at c0 h1 l1 ⊢;have b1:(σ.AL i (psA L s1)).blk i=some (psA L s1):=by rw [AO,if_pos rfl])
  (have c1:=(mV i L n hE 1 (by omega)) (σ.AL i (psA L s1)) s1 g0 h1 (by omega) b1;rw [A4] at c1;have h2:=h1.run (Ti E 1);have l2:=PM.le (Ti E 1) h1.wf;generalize (Ti E 1).run s1=y at c1 h2 l2 ⊢;obtain ⟨x1,s2⟩:=y;simp only at c1 h2 l2 ⊢;have b2:(σ.AL i (psA L s2)).blk i=some (psA L s2):=(by rw [AO,if_pos rfl]))
  (repeat' (first|refine Run.ct rfl ?_|((first|refine Run.reg mixed ?_|refine Run.AJ ?_|refine Run.Ad BO (AM.le_refl _) ?_|(refine AH.upd c0 ?_)|(refine AH.upd c1 ?_)|refine AH.det (hpk) ?_|refine AH.det (f1) ?_|refine AH.det (f2) ?_|refine AH.det (f3) ?_|refine AH.det (f4) ?_|refine AH.det (f5) ?_|(refine AQ rfl (fun h=>?_) (fun h=>?_)<;>try (cases h;done)))<;>try simp -implicitDefEqProofs only [hk3,hk1,hk2,go_sem])|(refine ⟨fun h=>?_,fun h=>?_⟩<;>first|(cases h;done)|try simp only [h])|fail))
 |false=>
 have f6:=DJ h0 _ σ b0 t6
 simp only [if_false,AW]
 have hpl:=q8 E s0
 simp only [H5] at hpl
 rw [hpl]
 clear hpl
 (repeat' (first|refine Run.ct rfl ?_|((first|refine Run.reg mixed ?_|refine Run.AJ ?_|refine AH.det (hpk) ?_|refine AH.det (f1) ?_|refine AH.det (f2) ?_|refine AH.det (f3) ?_|refine AH.det (f4) ?_|refine AH.det (f5) ?_|refine AH.det (f6) ?_|(refine AQ rfl (fun h=>?_) (fun h=>?_)<;>try (cases h;done)))<;>try simp -implicitDefEqProofs only [hk3,hk1,hk2,go_sem])|(refine ⟨fun h=>?_,fun h=>?_⟩<;>first|(cases h;done)|try simp only [h])|fail))
 refine Run.Ba ?_
 refine Run.Bd ((fun (a0:AV) (a2:AV)=>fun (k:Nat)=>put 0 a0 (put 2 a2 (put 5 (.d (.int .i64 (k:Nat))) U))) _ _) (fun _=>B8 2 [.d (.int .i64 0),.d (.str []),.d (.int .i64 0),.AY,.AY,.AY] Ab.E) (fun _=>σ) (fun k=>1≤k∧k≤8∧(cJ E (8 - k) k).run s0=(cJ E 7 1).run s0) (fun k=>8 - k) ?_ 1 ⟨by omega,by omega,rfl⟩
 rintro k ⟨q1,q2,q3⟩ ih
 by_cases hk7:k≤7
 · obtain ⟨m,hm⟩:∃m,8 - k=m+1:=⟨7 - k,by omega⟩
   have hpr:=Wv k q1 hk7
   have hw:=BU (a:=k) (by omega)
   rw [hm,cJ,H5] at q3
   cases ht:s0.hd.text==prT (k:Int) with
   |true=>
    rw [ht,if_pos rfl] at q3
    rw [← q3]
    have h13:=vB q1 hk7
    simp only [run_bind,run_pure,exA,exN,Ex.A2,AF,AI]
    have c0:=DK h0 (prT (k:Int)) σ b0 ht
    have h1:=h0.adv (vA (k:Int)) ht
    have l1:=BX h0.wf
    generalize s0.adv=s1 at c0 h1 l1 ⊢
    have b1:(σ.AL i (psA L s1)).blk i=some (psA L s1):=(by rw [AO,if_pos rfl])
    (have c1:=(mV i L n hE (He (k:Int)) h13) (σ.AL i (psA L s1)) s1 g0 h1 (by omega) b1;rw [A4] at c1;have h2:=h1.run (Ti E (He (k:Int)));have l2:=PM.le (Ti E (He (k:Int))) h1.wf;generalize (Ti E (He (k:Int))).run s1=y at c1 h2 l2 ⊢;obtain ⟨x1,s2⟩:=y;simp only at c1 h2 l2 ⊢;have b2:(σ.AL i (psA L s2)).blk i=some (psA L s2):=(by rw [AO,if_pos rfl]))
    (repeat' (first|refine Run.ct rfl ?_|((first|refine Run.reg mixed ?_|refine Run.AJ ?_|refine Run.Ad BO (AM.le_refl _) ?_|(refine AH.upd c0 ?_)|(refine AH.upd c1 ?_)|refine AH.det (hpr _) ?_|(refine AQ rfl (fun h=>?_) (fun h=>?_)<;>try (cases h;done)))<;>try simp -implicitDefEqProofs only [z1 hk7,go_sem])|(refine ⟨fun h=>?_,fun h=>?_⟩<;>first|(cases h;done)|try simp only [h])|fail))
   |false=>
    rw [ht,if_neg (by decide)] at q3
    have f7:=DJ h0 _ σ b0 ht
    (repeat' (first|refine Run.ct rfl ?_|((first|refine Run.reg mixed ?_|refine Run.AJ ?_|refine AH.det (hpr _) ?_|refine AH.det (f7) ?_|(refine AQ rfl (fun h=>?_) (fun h=>?_)<;>try (cases h;done)))<;>try simp -implicitDefEqProofs only [z1 hk7,hw,go_sem])|(refine ⟨fun h=>?_,fun h=>?_⟩<;>first|(cases h;done)|try simp only [h])|fail))
    exact ih (k+1) ⟨by omega,by omega,by rw [show 8 - (k+1)=m by omega];exact q3⟩ (by omega)
 · have:k=8:=by omega
   subst this
   rw [← q3]
   have hp0:(cJ E (8 - 8) 8).run s0=(exN 0 0 [],s0.fail):=rfl
   rw [hp0]
   simp only [exA,exN,Ex.A2,AF,AI]
   (repeat' (first|refine Run.ct rfl ?_|((first|refine Run.reg mixed ?_|refine Run.AJ ?_|refine Run.Ad BO (AM.le_refl _) ?_|(refine AH.upd (VM h0 σ b0) ?_)|(refine AQ rfl (fun h=>?_) (fun h=>?_)<;>try (cases h;done)))<;>try simp -implicitDefEqProofs only [ADC hk7,go_sem])|(refine ⟨fun h=>?_,fun h=>?_⟩<;>first|(cases h;done)|try simp only [h])|fail))
end Go.Ab
namespace Go.Ab
open Go.Proofs
theorem y4 (i:Nat) (x:Str):WC 80 [.gp i 0,.d (.str x)] i x:=by
 intro σ0 σ s hH hbu hlen
 refine RP (by simp) ?_
 rw [BP]
 (repeat' (first|refine Run.ct rfl ?_|((first|refine Run.reg mixed ?_|refine Run.AJ ?_|(refine AH.mk rfl (A6 x hbu hlen) ?_;rintro _ σ1 ⟨rfl,hb1⟩)|(refine AQ rfl (fun h=>?_) (fun h=>?_)<;>try (cases h;done)))<;>try simp -implicitDefEqProofs only [go_sem])|(refine ⟨fun h=>?_,fun h=>?_⟩<;>first|(cases h;done)|try simp only [h])|fail))
 exact Run.fin KB rfl (fun _ _ h=>h) (AM.le_refl _) ⟨rfl,hb1⟩
theorem fN (i:Nat) (x:Str):WC 140 [.gp i 0,.d (.str x)] i (shown x):=by
 intro σ0 σ s hH hbu hlen
 refine RH (by simp) ?_
 rw [BP]
 by_cases hx:x=[]
 · subst hx
   rw [shown,if_pos rfl] at hlen ⊢
   (repeat' (first|refine Run.ct rfl ?_|((first|refine Run.reg mixed ?_|refine Run.AJ ?_|(refine AH.mk rfl (A6 [95] hbu hlen) ?_;rintro _ σ1 ⟨rfl,hb1⟩)|(refine AQ rfl (fun h=>?_) (fun h=>?_)<;>try (cases h;done)))<;>try simp -implicitDefEqProofs only [go_sem])|(refine ⟨fun h=>?_,fun h=>?_⟩<;>first|(cases h;done)|try simp only [h])|fail))
   exact Run.fin Gl rfl (fun _ _ h=>h) (AM.le_refl _) ⟨rfl,hb1⟩
 · rw [shown,if_neg hx] at hlen ⊢
   have he:(x==([]:Str))=false:=by cases x with|nil=>exact absurd rfl hx|cons a l=>rfl
   (repeat' (first|refine Run.ct rfl ?_|((first|refine Run.reg mixed ?_|refine Run.AJ ?_|(refine AH.mk rfl (A6 x hbu hlen) ?_;rintro _ σ1 ⟨rfl,hb1⟩)|(refine AQ rfl (fun h=>?_) (fun h=>?_)<;>try (cases h;done)))<;>try simp -implicitDefEqProofs only [he,decide_eq_false hx,go_sem])|(refine ⟨fun h=>?_,fun h=>?_⟩<;>first|(cases h;done)|try simp only [h])|fail))
   exact Run.fin Gl rfl (fun _ _ h=>h) (AM.le_refl _) ⟨rfl,hb1⟩
set_option maxHeartbeats 2000000 in
theorem wA (i:Nat):∀(d:Nat) (t:TE),Bo d t=true→WC 84 [.gp i 0,teA t] i (Cz t)
 |0,t,h=>by simp [Bo] at h
 |d+1,.mk k n l,h=>by
  rw [Bo,AN,A7] at h
  obtain ⟨hsh,hall⟩:=h
  have hr:∀x∈l,WC 84 ([.gp i 0]++[teA x]++[]) i (Cz x):=fun x hx=>wA i d x (hall x hx)
  have hopt:=IB (H:=fun _=>True) i (first:=[.gp i 0]) (caps:=[]) (by kernel_rfl:Aw Tryz.prog 84=true) ⟨rfl,rfl⟩ Cz l hr
  intro σ0 σ s hH hbu hlen
  rw [Cz,Pz] at hlen ⊢
  refine SS (by simp) ?_
  rw [BP]
  simp only [teA,TE.A2,AF,AI]
  by_cases h1:k=1
  · subst h1
    simp only [tyN,if_true] at hlen ⊢
    (repeat' (first|refine Run.ct rfl ?_|((first|refine Run.reg mixed ?_|refine Run.AJ ?_|(refine AH.mk rfl (A6 [105,110,116] hbu hlen) ?_;rintro _ σ1 ⟨rfl,hb1⟩)|(refine AQ rfl (fun h=>?_) (fun h=>?_)<;>try (cases h;done)))<;>try simp -implicitDefEqProofs only [go_sem])|(refine ⟨fun h=>?_,fun h=>?_⟩<;>first|(cases h;done)|try simp only [h])|fail))
    exact Run.fin Br rfl (fun _ _ h=>h) (AM.le_refl _) ⟨rfl,hb1⟩
  by_cases h2:k=2
  · subst h2
    have e:tyN 2 n (l.map Cz)=[98,111,111,108]:=rfl
    rw [e] at hlen ⊢
    (repeat' (first|refine Run.ct rfl ?_|((first|refine Run.reg mixed ?_|refine Run.AJ ?_|(refine AH.mk rfl (A6 [98,111,111,108] hbu hlen) ?_;rintro _ σ1 ⟨rfl,hb1⟩)|(refine AQ rfl (fun h=>?_) (fun h=>?_)<;>try (cases h;done)))<;>try simp -implicitDefEqProofs only [go_sem])|(refine ⟨fun h=>?_,fun h=>?_⟩<;>first|(cases h;done)|try simp only [h])|fail))
    exact Run.fin Br rfl (fun _ _ h=>h) (AM.le_refl _) ⟨rfl,hb1⟩
  by_cases h3:k=3
  · subst h3
    have e:tyN 3 n (l.map Cz)=[117,110,105,116]:=rfl
    rw [e] at hlen ⊢
    (repeat' (first|refine Run.ct rfl ?_|((first|refine Run.reg mixed ?_|refine Run.AJ ?_|(refine AH.mk rfl (A6 [117,110,105,116] hbu hlen) ?_;rintro _ σ1 ⟨rfl,hb1⟩)|(refine AQ rfl (fun h=>?_) (fun h=>?_)<;>try (cases h;done)))<;>try simp -implicitDefEqProofs only [go_sem])|(refine ⟨fun h=>?_,fun h=>?_⟩<;>first|(cases h;done)|try simp only [h])|fail))
    exact Run.fin Br rfl (fun _ _ h=>h) (AM.le_refl _) ⟨rfl,hb1⟩
  by_cases h7:k=7
  · subst h7
    have e:tyN 7 n (l.map Cz)=[97,114,114,97,121]++Fw (l.map Cz):=rfl
    rw [e,AA,← Mn,← AA] at hlen
    rw [e,← AT]
    have hl1:s.length+([97,114,114,97,121]).length≤100000000000000:=by rw [AA] at hlen;omega
    (repeat' (first|refine Run.ct rfl ?_|((first|refine Run.reg mixed ?_|refine Run.AJ ?_|(refine AH.mk rfl (A6 [97,114,114,97,121] hbu hl1) ?_;rintro _ σ1 ⟨rfl,hb1⟩)|(refine AQ rfl (fun h=>?_) (fun h=>?_)<;>try (cases h;done)))<;>try simp -implicitDefEqProofs only [go_sem])|(refine ⟨fun h=>?_,fun h=>?_⟩<;>first|(cases h;done)|try simp only [h])|fail))
    (repeat' (first|refine Run.ct rfl ?_|((first|refine Run.reg mixed ?_|refine Run.AJ ?_|(refine AH.mk rfl (hopt σ0 σ1 _ hH hb1 hlen) ?_;rintro _ σ2 ⟨rfl,hb2⟩)|(refine AQ rfl (fun h=>?_) (fun h=>?_)<;>try (cases h;done)))<;>try simp -implicitDefEqProofs only [go_sem])|(refine ⟨fun h=>?_,fun h=>?_⟩<;>first|(cases h;done)|try simp only [h])|fail))
    exact Run.fin Br rfl (fun _ _ h=>h) (AM.le_refl _) ⟨rfl,hb2⟩
  by_cases h8:k=8
  · subst h8
    have e:tyN 8 n (l.map Cz)=[114,101,102]++Fw (l.map Cz):=rfl
    rw [e,AA,← Mn,← AA] at hlen
    rw [e,← AT]
    have hl1:s.length+([114,101,102]).length≤100000000000000:=by rw [AA] at hlen;omega
    (repeat' (first|refine Run.ct rfl ?_|((first|refine Run.reg mixed ?_|refine Run.AJ ?_|(refine AH.mk rfl (A6 [114,101,102] hbu hl1) ?_;rintro _ σ1 ⟨rfl,hb1⟩)|(refine AQ rfl (fun h=>?_) (fun h=>?_)<;>try (cases h;done)))<;>try simp -implicitDefEqProofs only [go_sem])|(refine ⟨fun h=>?_,fun h=>?_⟩<;>first|(cases h;done)|try simp only [h])|fail))
    (repeat' (first|refine Run.ct rfl ?_|((first|refine Run.reg mixed ?_|refine Run.AJ ?_|(refine AH.mk rfl (hopt σ0 σ1 _ hH hb1 hlen) ?_;rintro _ σ2 ⟨rfl,hb2⟩)|(refine AQ rfl (fun h=>?_) (fun h=>?_)<;>try (cases h;done)))<;>try simp -implicitDefEqProofs only [go_sem])|(refine ⟨fun h=>?_,fun h=>?_⟩<;>first|(cases h;done)|try simp only [h])|fail))
    exact Run.fin Br rfl (fun _ _ h=>h) (AM.le_refl _) ⟨rfl,hb2⟩
  by_cases h9:k=9
  · subst h9
    have hne:l≠[]:=by
     intro e;subst e
     simp [Cv] at hsh
    obtain ⟨l,z,rfl⟩:∃l' z,l=l'++[z]:=⟨l.dropLast,l.getLast hne,(List.dropLast_concat_getLast hne).symm⟩
    have hsep:=Hf (H:=fun _=>True) i (first:=[.gp i 0]) (caps:=[]) (by kernel_rfl:Aw Tryz.prog 84=true) ⟨rfl,rfl⟩ [44,32] Cz l (fun x hx=>hr x (by simp [hx]))
    have hz:WC 84 [.gp i 0,teA z] i (Cz z):=hr z (by simp)
    have e:tyN 9 n ((l++[z]).map Cz)=[102,110,40]++(Lib.join (l.map Cz) [44,32]++([41,32,45,62,32]++Cz z)):=by
     show [102,110]++(FC ((l++[z]).map Cz).dropLast++([32,45,62,32]++((l++[z]).map Cz).getLastD []))=_
     rw [Bp,List.map_singleton,List.dropLast_concat,FC,Fk,cms,List.getLastD_concat]
     simp
    rw [e] at hlen ⊢
    simp only [AA,AB,AE] at hlen hsh
    have hl7:l.length≤7:=by
     have:Cv 9 n (l.length+1)=(n==[]&&decide (1≤l.length+1)&&decide (l.length+1≤7)):=rfl
     simp only [Bb] at hsh
     rw [this,AN,AN,decide_eq_true_eq,decide_eq_true_eq] at hsh
     omega
    have hw:IntKind.i64.wrap (((l++[z]).length:Nat) - 1:Int)=((l.length:Nat):Int):=by
     rw [AA,List.length_singleton,BF (by omega) (by omega)];omega
    have hzx:(l++[z])[l.length]?=some z:=by simp
    have he:=CR (enc:=TE.enc) hzx
    have htk:X5 ((l++[z]).map TE.enc) none (some (.d (.int .i64 (l.length:Int)))) none 3=some (.d (.sl (l.map TE.enc))):=by
     have h0:X5 ((l++[z]).map TE.enc) none (some (.d (.int .i64 (l.length:Int)))) none 3=some (.d (.sl (((l++[z]).map TE.enc).take l.length))):=by simp [X5,Vp,Uc]
     rw [h0,← List.map_take,Ke]
    obtain ⟨zk,zn,zl⟩:=z
    simp only [teA,TE.A2,AF,AI] at he hz
    (repeat' (first|refine Run.ct rfl ?_|((first|refine Run.reg mixed ?_|refine Run.AJ ?_|(refine AH.mk rfl (A6 [102,110,40] hbu (by simp only [AB,AE];omega)) ?_;rintro _ σ1 ⟨rfl,hb1⟩)|(refine AQ rfl (fun h=>?_) (fun h=>?_)<;>try (cases h;done)))<;>try simp -implicitDefEqProofs only [hw,htk,AG,go_sem])|(refine ⟨fun h=>?_,fun h=>?_⟩<;>first|(cases h;done)|try simp only [h])|fail))
    (repeat' (first|refine Run.ct rfl ?_|((first|refine Run.reg mixed ?_|refine Run.AJ ?_|(refine AH.mk rfl (hsep σ0 σ1 _ hH hb1 (by simp only [AA,AB,AE];omega)) ?_;rintro _ σ2 ⟨rfl,hb2⟩)|(refine AQ rfl (fun h=>?_) (fun h=>?_)<;>try (cases h;done)))<;>try simp -implicitDefEqProofs only [go_sem])|(refine ⟨fun h=>?_,fun h=>?_⟩<;>first|(cases h;done)|try simp only [h])|fail))
    (repeat' (first|refine Run.ct rfl ?_|((first|refine Run.reg mixed ?_|refine Run.AJ ?_|(refine AH.mk rfl (A6 [41,32,45,62,32] hb2 (by simp only [AA,AB,AE];omega)) ?_;rintro _ σ3 ⟨rfl,hb3⟩)|(refine AQ rfl (fun h=>?_) (fun h=>?_)<;>try (cases h;done)))<;>try simp -implicitDefEqProofs only [he,go_sem])|(refine ⟨fun h=>?_,fun h=>?_⟩<;>first|(cases h;done)|try simp only [h])|fail))
    (repeat' (first|refine Run.ct rfl ?_|((first|refine Run.reg mixed ?_|refine Run.AJ ?_|(refine AH.mk rfl (hz σ0 σ3 _ hH hb3 (by simp only [AA,AB,AE];omega)) ?_;rintro _ σ4 ⟨rfl,hb4⟩)|(refine AQ rfl (fun h=>?_) (fun h=>?_)<;>try (cases h;done)))<;>try simp -implicitDefEqProofs only [he,go_sem])|(refine ⟨fun h=>?_,fun h=>?_⟩<;>first|(cases h;done)|try simp only [h])|fail))
    simp only [AT] at hb4
    exact Run.fin Br rfl (fun _ _ h=>h) (AM.le_refl _) ⟨rfl,hb4⟩
  have e:tyN k n (l.map Cz)=n++Fw (l.map Cz):=by rw [tyN,if_neg h1,if_neg h2,if_neg h3,if_neg h7,if_neg h8,if_neg h9]
  rw [e,AA,← Mn,← AA] at hlen
  rw [e,← AT]
  have hl1:s.length+n.length≤100000000000000:=by rw [AA] at hlen;omega
  (repeat' (first|refine Run.ct rfl ?_|((first|refine Run.reg mixed ?_|refine Run.AJ ?_|(refine AH.mk rfl (A6 n hbu hl1) ?_;rintro _ σ1 ⟨rfl,hb1⟩)|(refine AQ rfl (fun h=>?_) (fun h=>?_)<;>try (cases h;done)))<;>try simp -implicitDefEqProofs only [Bq h1,Bq h2,Bq h3,Bq h7,Bq h8,Bq h9,go_sem])|(refine ⟨fun h=>?_,fun h=>?_⟩<;>first|(cases h;done)|try simp only [h])|fail))
  (repeat' (first|refine Run.ct rfl ?_|((first|refine Run.reg mixed ?_|refine Run.AJ ?_|(refine AH.mk rfl (hopt σ0 σ1 _ hH hb1 hlen) ?_;rintro _ σ2 ⟨rfl,hb2⟩)|(refine AQ rfl (fun h=>?_) (fun h=>?_)<;>try (cases h;done)))<;>try simp -implicitDefEqProofs only [go_sem])|(refine ⟨fun h=>?_,fun h=>?_⟩<;>first|(cases h;done)|try simp only [h])|fail))
  exact Run.fin Br rfl (fun _ _ h=>h) (AM.le_refl _) ⟨rfl,hb2⟩
end Go.Ab
