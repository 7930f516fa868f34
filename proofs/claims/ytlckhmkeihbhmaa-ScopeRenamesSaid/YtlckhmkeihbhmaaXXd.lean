/- The guards on programs: Prog. Conditions: none. -/
import Derived.Test.YtlckhmkeihbhmaaXXc
set_option linter.unusedSimpArgs false
namespace Go.Ab
open Go.Proofs
def CE.sm (c : CE) : Prop := c.name.length ≤ 40 ∧ c.args.length ≤ 10 ∧ ∀ t ∈ c.args, t.sm ∧ t.size ≤ 200
def DE.sm (d : DE) : Prop := d.name.length ≤ 40 ∧ nmsP d.vars ∧ d.cons.length ≤ 10 ∧ ∀ c ∈ d.cons, c.sm
def FE.sm (f : FE) : Prop := f.name.length ≤ 40 ∧ nmsP f.params ∧ f.body.sm ∧ f.body.size ≤ 200
def Pg.sm (p : Pg) : Prop := (p.data.length ≤ 14 ∧ ∀ d ∈ p.data, d.sm) ∧ p.funs.length ≤ 26 ∧ ∀ f ∈ p.funs, f.sm
theorem gt14 (n : Nat) : decide ((14 : Int) < (n : Int)) = decide (14 < n) := decide_eq_decide.2 (by omega)
theorem gt26 (n : Nat) : decide ((26 : Int) < (n : Int)) = decide (26 < n) := decide_eq_decide.2 (by omega)
abbrev KQ (σ0 : Heap) (good : Prop) (Q : AV → Heap → Prop) : Prop := Q (.d (.bool false)) σ0
set_option maxRecDepth 4000 in
set_option maxHeartbeats 8000000 in
theorem keep_Prog_ok (p : Pg) (σ : Heap) : ACalls Try.prog 4 [pgA p] σ (fun v σ' => ∃ b, (v = .d (.bool b) ∧ σ' = σ) ∧ (b = true → p.sm)) := by
  refine i_keep_Prog (by simp) ?_
  rw [argF_1]
  obtain ⟨ds, fs⟩ := p
  simp only [pgA, Pg.enc, List.map_cons, List.map_nil]
  generalize hQ : (fun (v : AV) (σ' : Heap) => ∃ b, (v = .d (.bool b) ∧ σ' = σ) ∧ (b = true → Pg.sm ⟨ds, fs⟩)) = Q
  have hno : Q (.d (.bool false)) σ := by rw [← hQ]; exact ⟨false, ⟨rfl, rfl⟩, fun h => by cases h⟩
  have hyes : Pg.sm ⟨ds, fs⟩ → Q (.d (.bool true)) σ := fun h => by rw [← hQ]; exact ⟨true, ⟨rfl, rfl⟩, fun _ => h⟩
  clear hQ
  by_cases hd14 : 14 < ds.length
  · (repeat' (first|refine Run.ct rfl ?_|((first|refine Run.reg mixed ?_|refine Run.condM ?_|refine Run.retR g_keep_Prog (Heap.le_refl _) ?_|(refine xo_gs rfl (fun h => ?_) (fun h => ?_) <;> try (cases h; done))) <;> try simp -implicitDefEqProofs only [List.length_map, gt14, decide_eq_true hd14, go_sem, Nat.reduceEqDiff, Nat.reduceBEq, Nat.reduceAdd, Nat.reduceLeDiff, reduceIte, reduceCtorEq])|(refine ⟨fun h => ?_, fun h => ?_⟩ <;> first|(cases h; done)|try simp only [h])|fail))
    exact hno
  by_cases hf26 : 26 < fs.length
  · (repeat' (first|refine Run.ct rfl ?_|((first|refine Run.reg mixed ?_|refine Run.condM ?_|refine Run.retR g_keep_Prog (Heap.le_refl _) ?_|(refine xo_gs rfl (fun h => ?_) (fun h => ?_) <;> try (cases h; done))) <;> try simp -implicitDefEqProofs only [List.length_map, gt14, decide_eq_false hd14, gt26, decide_eq_true hf26, go_sem, Nat.reduceEqDiff, Nat.reduceBEq, Nat.reduceAdd, Nat.reduceLeDiff, reduceIte, reduceCtorEq])|(refine ⟨fun h => ?_, fun h => ?_⟩ <;> first|(cases h; done)|try simp only [h])|fail))
    exact hno
  (repeat' (first|refine Run.ct rfl ?_|((first|refine Run.reg mixed ?_|refine Run.condM ?_|(refine xo_gs rfl (fun h => ?_) (fun h => ?_) <;> try (cases h; done))) <;> try simp -implicitDefEqProofs only [List.length_map, gt14, decide_eq_false hd14, gt26, decide_eq_false hf26, go_sem, Nat.reduceEqDiff, Nat.reduceBEq, Nat.reduceAdd, Nat.reduceLeDiff, reduceIte, reduceCtorEq])|(refine ⟨fun h => ?_, fun h => ?_⟩ <;> first|(cases h; done)|try simp only [h])|fail))
  rintro j ⟨hj, hjb⟩
  obtain ⟨hle0, hbj⟩ := alt_le (z := [AV.d (.int .i64 0)]) (x := (1, 3)) ⟨hj, hjb⟩
  generalize hτ : (σ.setBlk j [AV.d (.int .i64 0)]).setBt j (1, 3) = τ0 at hle0 hbj ⊢
  have hle : ∀ q : Nat, σ.le (τ0.setBlk j [.d (.int .i64 q)]) := fun q => le_set hle0 hj
  have hbk : ∀ q : Nat, (τ0.setBlk j [.d (.int .i64 q)]).blk j = some [.d (.int .i64 q)] := fun q => by rw [setBlk_get, if_pos rfl]
  clear hτ
  simp -implicitDefEqProofs only [hbj, List.drop, go_sem, Nat.reduceEqDiff, Nat.reduceBEq, Nat.reduceAdd, Nat.reduceLeDiff, reduceIte, reduceCtorEq]
  (repeat' (first|refine Run.ct rfl ?_|((first|refine Run.reg mixed ?_|refine Run.condM ?_|(refine xo_gs rfl (fun h => ?_) (fun h => ?_) <;> try (cases h; done))) <;> try simp -implicitDefEqProofs only [List.length_map, hbj, List.drop, go_sem, Nat.reduceEqDiff, Nat.reduceBEq, Nat.reduceAdd, Nat.reduceLeDiff, reduceIte, reduceCtorEq])|(refine ⟨fun h => ?_, fun h => ?_⟩ <;> first|(cases h; done)|try simp only [h])|fail))
  refine Run.loopA ?_
  refine Run.loopI ((fun (a1 : AV) (a3 : AV) (a23 : AV) (a24 : AV) => fun (y : Nat × Nat) => put 1 a1 (put 3 a3 (put 23 a23 (put 24 a24 (put 25 (.d (.int .i64 y.1)) U))))) _ _ _ _) (fun _ => putL 1 [.d (.sl (ds.map DE.enc)), .d (.sl (fs.map FE.enc))] E) (fun y => τ0.setBlk j [.d (.int .i64 y.2)])
    (fun y => y.1 ≤ ds.length ∧ y.2 ≤ 200 ∧ ∀ d ∈ ds.take y.1, d.sm) (fun y => ds.length - y.1) ?_ (0, 200) ⟨by simp, by simp, by simp⟩
  rintro ⟨i, q⟩ ⟨hi, hq, hsm⟩ ih
  simp only at hi hq hsm
  by_cases hlt : i < ds.length
  · obtain ⟨d, hd⟩ := ex_at hlt
    have he := row_at (enc := DE.enc) hd
    have hw1 := wrap_succ (show i + 1 ≤ 9000000000000000000 by omega)
    have hms := fun hp => mem_take_snoc (p := DE.sm) hsm hd hp
    obtain ⟨dn, dvs', dcs⟩ := d
    simp only [DE.enc] at he
    have hnm := fun σ => keep_Names_ok dvs' σ
    by_cases h40 : 40 < dn.length
    · (repeat' (first|refine Run.ct rfl ?_|((first|refine Run.reg mixed ?_|refine Run.condM ?_|(refine Run.retP g_keep_Prog (σ2 := σ) (hle _) ?_)|(refine xo_gs rfl (fun h => ?_) (fun h => ?_) <;> try (cases h; done))) <;> try simp -implicitDefEqProofs only [lt_t hlt, he, gt40, decide_eq_true h40, List.length_map, go_sem, Nat.reduceEqDiff, Nat.reduceBEq, Nat.reduceAdd, Nat.reduceLeDiff, reduceIte, reduceCtorEq])|(refine ⟨fun h => ?_, fun h => ?_⟩ <;> first|(cases h; done)|try simp only [h])|fail))
      exact hno
    cases hnk : (decide (dvs'.length ≤ 10) && nmsK dvs') with
    | false =>
      rw [hnk] at hnm
      (repeat' (first|refine Run.ct rfl ?_|((first|refine Run.reg mixed ?_|refine Run.condM ?_|(refine Run.retP g_keep_Prog (σ2 := σ) (hle _) ?_)|refine XCall.det (hnm _) ?_|(refine xo_gs rfl (fun h => ?_) (fun h => ?_) <;> try (cases h; done))) <;> try simp -implicitDefEqProofs only [lt_t hlt, he, gt40, decide_eq_false h40, List.length_map, go_sem, Nat.reduceEqDiff, Nat.reduceBEq, Nat.reduceAdd, Nat.reduceLeDiff, reduceIte, reduceCtorEq])|(refine ⟨fun h => ?_, fun h => ?_⟩ <;> first|(cases h; done)|try simp only [h])|fail))
      exact hno
    | true =>
    rw [hnk] at hnm
    by_cases hc10 : 10 < dcs.length
    · (repeat' (first|refine Run.ct rfl ?_|((first|refine Run.reg mixed ?_|refine Run.condM ?_|(refine Run.retP g_keep_Prog (σ2 := σ) (hle _) ?_)|refine XCall.det (hnm _) ?_|(refine xo_gs rfl (fun h => ?_) (fun h => ?_) <;> try (cases h; done))) <;> try simp -implicitDefEqProofs only [lt_t hlt, he, gt40, decide_eq_false h40, gt10, decide_eq_true hc10, List.length_map, go_sem, Nat.reduceEqDiff, Nat.reduceBEq, Nat.reduceAdd, Nat.reduceLeDiff, reduceIte, reduceCtorEq])|(refine ⟨fun h => ?_, fun h => ?_⟩ <;> first|(cases h; done)|try simp only [h])|fail))
      exact hno
    (repeat' (first|refine Run.ct rfl ?_|((first|refine Run.reg mixed ?_|refine Run.condM ?_|refine XCall.det (hnm _) ?_|(refine xo_gs rfl (fun h => ?_) (fun h => ?_) <;> try (cases h; done))) <;> try simp -implicitDefEqProofs only [lt_t hlt, he, gt40, decide_eq_false h40, gt10, decide_eq_false hc10, List.length_map, go_sem, Nat.reduceEqDiff, Nat.reduceBEq, Nat.reduceAdd, Nat.reduceLeDiff, reduceIte, reduceCtorEq])|(refine ⟨fun h => ?_, fun h => ?_⟩ <;> first|(cases h; done)|try simp only [h])|fail))
    refine Run.loopA ?_
    refine Run.loopI ((fun (a1 : AV) (a3 : AV) (a23 : AV) (a24 : AV) (a25 : AV) (a46 : AV) (a47 : AV) => fun (y : Nat × Nat) => put 1 a1 (put 3 a3 (put 23 a23 (put 24 a24 (put 25 a25 (put 46 a46 (put 47 a47 (put 48 (.d (.int .i64 y.1)) U)))))))) _ _ _ _ _ _ _) (fun _ => putL 1 [.d (.sl (ds.map DE.enc)), .d (.sl (fs.map FE.enc))] E) (fun y => τ0.setBlk j [.d (.int .i64 y.2)])
      (fun y => y.1 ≤ dcs.length ∧ y.2 ≤ 200 ∧ ∀ d ∈ dcs.take y.1, d.sm) (fun y => dcs.length - y.1) ?_ (0, q) ⟨by simp, hq, by simp⟩
    rintro ⟨i1, q1⟩ ⟨hi1, hq1, hsm1⟩ ih1
    simp only at hi1 hq1 hsm1
    by_cases hlt1 : i1 < dcs.length
    · obtain ⟨c, hc⟩ := ex_at hlt1
      have he1 := row_at (enc := CE.enc) hc
      have hw2 := wrap_succ (show i1 + 1 ≤ 9000000000000000000 by omega)
      have hms1 := fun hp => mem_take_snoc (p := CE.sm) hsm1 hc hp
      obtain ⟨cn, ar⟩ := c
      simp only [CE.enc] at he1
      by_cases hcn40 : 40 < cn.length
      · (repeat' (first|refine Run.ct rfl ?_|((first|refine Run.reg mixed ?_|refine Run.condM ?_|(refine Run.retP g_keep_Prog (σ2 := σ) (hle _) ?_)|(refine xo_gs rfl (fun h => ?_) (fun h => ?_) <;> try (cases h; done))) <;> try simp -implicitDefEqProofs only [lt_t hlt1, he1, gt40, decide_eq_true hcn40, List.length_map, go_sem, Nat.reduceEqDiff, Nat.reduceBEq, Nat.reduceAdd, Nat.reduceLeDiff, reduceIte, reduceCtorEq])|(refine ⟨fun h => ?_, fun h => ?_⟩ <;> first|(cases h; done)|try simp only [h])|fail))
        exact hno
      by_cases ha10 : 10 < ar.length
      · (repeat' (first|refine Run.ct rfl ?_|((first|refine Run.reg mixed ?_|refine Run.condM ?_|(refine Run.retP g_keep_Prog (σ2 := σ) (hle _) ?_)|(refine xo_gs rfl (fun h => ?_) (fun h => ?_) <;> try (cases h; done))) <;> try simp -implicitDefEqProofs only [lt_t hlt1, he1, gt40, decide_eq_false hcn40, gt10, decide_eq_true ha10, List.length_map, go_sem, Nat.reduceEqDiff, Nat.reduceBEq, Nat.reduceAdd, Nat.reduceLeDiff, reduceIte, reduceCtorEq])|(refine ⟨fun h => ?_, fun h => ?_⟩ <;> first|(cases h; done)|try simp only [h])|fail))
        exact hno
      (repeat' (first|refine Run.ct rfl ?_|((first|refine Run.reg mixed ?_|refine Run.condM ?_|(refine xo_gs rfl (fun h => ?_) (fun h => ?_) <;> try (cases h; done))) <;> try simp -implicitDefEqProofs only [lt_t hlt1, he1, gt40, decide_eq_false hcn40, gt10, decide_eq_false ha10, List.length_map, go_sem, Nat.reduceEqDiff, Nat.reduceBEq, Nat.reduceAdd, Nat.reduceLeDiff, reduceIte, reduceCtorEq])|(refine ⟨fun h => ?_, fun h => ?_⟩ <;> first|(cases h; done)|try simp only [h])|fail))
      refine Run.loopA ?_
      refine Run.loopI ((fun (a1 : AV) (a3 : AV) (a23 : AV) (a24 : AV) (a25 : AV) (a46 : AV) (a47 : AV) (a48 : AV) (a63 : AV) (a64 : AV) => fun (y : Nat × Nat) => put 1 a1 (put 3 a3 (put 23 a23 (put 24 a24 (put 25 a25 (put 46 a46 (put 47 a47 (put 48 a48 (put 63 a63 (put 64 a64 (put 65 (.d (.int .i64 y.1)) U))))))))))) _ _ _ _ _ _ _ _ _ _) (fun _ => putL 1 [.d (.sl (ds.map DE.enc)), .d (.sl (fs.map FE.enc))] E) (fun y => τ0.setBlk j [.d (.int .i64 y.2)])
        (fun y => y.1 ≤ ar.length ∧ y.2 ≤ 200 ∧ ∀ t ∈ ar.take y.1, t.sm ∧ t.size ≤ 200) (fun y => ar.length - y.1) ?_ (0, q1) ⟨by simp, hq1, by simp⟩
      rintro ⟨i2, q2⟩ ⟨hi2, hq2, hsm2⟩ ih2
      simp only at hi2 hq2 hsm2
      by_cases hlt2 : i2 < ar.length
      · obtain ⟨x, hx⟩ := ex_at hlt2
        have he2 := row_at (enc := TE.enc) hx
        have hw3 := wrap_succ (show i2 + 1 ≤ 9000000000000000000 by omega)
        have hms2 := fun hp => mem_take_snoc (p := fun t => TE.sm t ∧ t.size ≤ 200) hsm2 hx hp
        have hcl := keep_written_ok j x.size x q2 (τ0.setBlk j [.d (.int .i64 q2)]) (Nat.le_refl _) (by omega) (hbk q2)
        obtain ⟨xk, xn, xl⟩ := x
        simp only [teA, TE.enc_mk, List.map_cons, List.map_nil] at he2 hcl
        (repeat' (first|refine Run.ct rfl ?_|((first|refine Run.reg mixed ?_|refine Run.condM ?_|(refine XCall.mk rfl hcl ?_; rintro v σ' ⟨b, z, ⟨rfl, rfl⟩, hres⟩; cases b <;> rw [setBlk_set])|(refine Run.retP g_keep_Prog (σ2 := σ) (le_set hle0 hj) ?_)|(refine xo_gs rfl (fun h => ?_) (fun h => ?_) <;> try (cases h; done))) <;> try simp -implicitDefEqProofs only [lt_t hlt2, he2, hw3, List.length_map, go_sem, Nat.reduceEqDiff, Nat.reduceBEq, Nat.reduceAdd, Nat.reduceLeDiff, reduceIte, reduceCtorEq])|(refine ⟨fun h => ?_, fun h => ?_⟩ <;> first|(cases h; done)|try simp only [h])|fail))
        · exact hno
        · obtain ⟨g1, q3, rfl, g2⟩ := hres rfl
          exact ih2 (i2 + 1, q3) ⟨by simp only; omega, by simp only; omega, hms2 ⟨g1, by omega⟩⟩ (by simp only; omega)
      · rw [List.take_of_length_le (by omega)] at hsm2
        (repeat' (first|refine Run.ct rfl ?_|((first|refine Run.reg mixed ?_|refine Run.condM ?_|(refine xo_gs rfl (fun h => ?_) (fun h => ?_) <;> try (cases h; done))) <;> try simp -implicitDefEqProofs only [lt_f hlt2, hw2, List.length_map, go_sem, Nat.reduceEqDiff, Nat.reduceBEq, Nat.reduceAdd, Nat.reduceLeDiff, reduceIte, reduceCtorEq])|(refine ⟨fun h => ?_, fun h => ?_⟩ <;> first|(cases h; done)|try simp only [h])|fail))
        exact ih1 (i1 + 1, q2) ⟨by simp only; omega, hq2, hms1 ⟨by simp only; omega, by simp only; omega, hsm2⟩⟩ (by simp only; omega)
    · rw [List.take_of_length_le (by omega)] at hsm1
      (repeat' (first|refine Run.ct rfl ?_|((first|refine Run.reg mixed ?_|refine Run.condM ?_|(refine xo_gs rfl (fun h => ?_) (fun h => ?_) <;> try (cases h; done))) <;> try simp -implicitDefEqProofs only [lt_f hlt1, hw1, List.length_map, go_sem, Nat.reduceEqDiff, Nat.reduceBEq, Nat.reduceAdd, Nat.reduceLeDiff, reduceIte, reduceCtorEq])|(refine ⟨fun h => ?_, fun h => ?_⟩ <;> first|(cases h; done)|try simp only [h])|fail))
      exact ih (i + 1, q1) ⟨by simp only; omega, hq1, hms ⟨by simp only; omega, nmsK_P hnk, by simp only; omega, hsm1⟩⟩ (by simp only; omega)
  · rw [List.take_of_length_le (by omega)] at hsm
    clear ih
    (repeat' (first|refine Run.ct rfl ?_|((first|refine Run.reg mixed ?_|refine Run.condM ?_|(refine xo_gs rfl (fun h => ?_) (fun h => ?_) <;> try (cases h; done))) <;> try simp -implicitDefEqProofs only [lt_f hlt, List.length_map, go_sem, Nat.reduceEqDiff, Nat.reduceBEq, Nat.reduceAdd, Nat.reduceLeDiff, reduceIte, reduceCtorEq])|(refine ⟨fun h => ?_, fun h => ?_⟩ <;> first|(cases h; done)|try simp only [h])|fail))
    refine Run.loopA ?_
    refine Run.loopI ((fun (a3 : AV) (a76 : AV) (a77 : AV) => fun (y : Nat × Nat) => put 3 a3 (put 76 a76 (put 77 a77 (put 78 (.d (.int .i64 y.1)) U)))) _ _ _) (fun _ => E) (fun y => τ0.setBlk j [.d (.int .i64 y.2)])
      (fun y => y.1 ≤ fs.length ∧ y.2 ≤ 200 ∧ ∀ d ∈ fs.take y.1, d.sm) (fun y => fs.length - y.1) ?_ (0, q) ⟨by simp, hq, by simp⟩
    rintro ⟨i1, q1⟩ ⟨hi1, hq1, hsm1⟩ ih
    simp only at hi1 hq1 hsm1
    by_cases hlt1 : i1 < fs.length
    · obtain ⟨f, hf⟩ := ex_at hlt1
      have he := row_at (enc := FE.enc) hf
      have hw1 := wrap_succ (show i1 + 1 ≤ 9000000000000000000 by omega)
      have hms := fun hp => mem_take_snoc (p := FE.sm) hsm1 hf hp
      obtain ⟨fn, fps, fb⟩ := f
      have hnm := fun σ => keep_Names_ok fps σ
      have hcl := keep_expr_ok j fb.size fb q1 (τ0.setBlk j [.d (.int .i64 q1)]) (Nat.le_refl _) (by omega) (hbk q1)
      obtain ⟨xo, xn, xu, xns, xks, xal⟩ := fb
      simp only [FE.enc, exA, Ex.enc_mk, List.map_cons, List.map_nil] at he hcl
      by_cases h40 : 40 < fn.length
      · (repeat' (first|refine Run.ct rfl ?_|((first|refine Run.reg mixed ?_|refine Run.condM ?_|(refine Run.retP g_keep_Prog (σ2 := σ) (hle _) ?_)|(refine xo_gs rfl (fun h => ?_) (fun h => ?_) <;> try (cases h; done))) <;> try simp -implicitDefEqProofs only [lt_t hlt1, he, gt40, decide_eq_true h40, List.length_map, go_sem, Nat.reduceEqDiff, Nat.reduceBEq, Nat.reduceAdd, Nat.reduceLeDiff, reduceIte, reduceCtorEq])|(refine ⟨fun h => ?_, fun h => ?_⟩ <;> first|(cases h; done)|try simp only [h])|fail))
        exact hno
      cases hnk : (decide (fps.length ≤ 10) && nmsK fps) with
      | false =>
        rw [hnk] at hnm
        (repeat' (first|refine Run.ct rfl ?_|((first|refine Run.reg mixed ?_|refine Run.condM ?_|(refine Run.retP g_keep_Prog (σ2 := σ) (hle _) ?_)|refine XCall.det (hnm _) ?_|(refine xo_gs rfl (fun h => ?_) (fun h => ?_) <;> try (cases h; done))) <;> try simp -implicitDefEqProofs only [lt_t hlt1, he, gt40, decide_eq_false h40, List.length_map, go_sem, Nat.reduceEqDiff, Nat.reduceBEq, Nat.reduceAdd, Nat.reduceLeDiff, reduceIte, reduceCtorEq])|(refine ⟨fun h => ?_, fun h => ?_⟩ <;> first|(cases h; done)|try simp only [h])|fail))
        exact hno
      | true =>
      rw [hnk] at hnm
      (repeat' (first|refine Run.ct rfl ?_|((first|refine Run.reg mixed ?_|refine Run.condM ?_|(refine XCall.mk rfl hcl ?_; rintro v σ' ⟨b, z, ⟨rfl, rfl⟩, hres⟩; cases b <;> rw [setBlk_set])|(refine Run.retP g_keep_Prog (σ2 := σ) (le_set hle0 hj) ?_)|refine XCall.det (hnm _) ?_|(refine xo_gs rfl (fun h => ?_) (fun h => ?_) <;> try (cases h; done))) <;> try simp -implicitDefEqProofs only [lt_t hlt1, he, hw1, gt40, decide_eq_false h40, List.length_map, go_sem, Nat.reduceEqDiff, Nat.reduceBEq, Nat.reduceAdd, Nat.reduceLeDiff, reduceIte, reduceCtorEq])|(refine ⟨fun h => ?_, fun h => ?_⟩ <;> first|(cases h; done)|try simp only [h])|fail))
      · exact hno
      · obtain ⟨g1, q3, rfl, g2⟩ := hres rfl
        exact ih (i1 + 1, q3) ⟨by simp only; omega, by simp only; omega, hms ⟨by simp only; omega, nmsK_P hnk, g1, by simp only; omega⟩⟩ (by simp only; omega)
    · rw [List.take_of_length_le (by omega)] at hsm1
      (repeat' (first|refine Run.ct rfl ?_|((first|refine Run.reg mixed ?_|refine Run.condM ?_|(refine Run.retP g_keep_Prog (σ2 := σ) (hle _) ?_)|(refine xo_gs rfl (fun h => ?_) (fun h => ?_) <;> try (cases h; done))) <;> try simp -implicitDefEqProofs only [lt_f hlt1, List.length_map, go_sem, Nat.reduceEqDiff, Nat.reduceBEq, Nat.reduceAdd, Nat.reduceLeDiff, reduceIte, reduceCtorEq])|(refine ⟨fun h => ?_, fun h => ?_⟩ <;> first|(cases h; done)|try simp only [h])|fail))
      exact hyes ⟨⟨by simp only; omega, hsm⟩, by simp only; omega, hsm1⟩
end Go.Ab
