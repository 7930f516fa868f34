/- Validity of types: the reference. Conditions: none. -/
import Derived.Test.YtdbpmhfepfpldaaDoorXHc
set_option linter.unusedSimpArgs false
set_option linter.unusedVariables false
namespace Go.Ab
open Go.Proofs

theorem eqN (a : Nat) (b : Nat) : ((a : Int) == (b : Int)) = (a == b) := by
  rw [Bool.eq_iff_iff]; simp; omega
theorem len_eq0 (a : Nat) : ((a : Int) == 0) = (a == 0) := eqN a 0

set_option maxHeartbeats 8000000 in
theorem r6_valid_ok (data : List Dat) (vars : Int) : ∀ (n : Nat) (t : Ty) (σ : Heap), t.size ≤ n → n ≤ 1000000 → ACalls Tryd.prog 46 [dsA data, tyA t, .d (.int .i64 vars)] σ (fun v σ' => v = .d (.bool (validT data vars t)) ∧ σ' = σ) := by
  intro n
  induction n using Nat.strongRecOn with
  | _ n ih =>
    intro t σ hn hm
    obtain ⟨kd, nm, l⟩ := t
    have hsz : (Ty.mk kd nm l).size = 1 + Ty.sizes l := rfl
    have hll := ty_len l
    refine i_r6_valid (by simp) ?_
    rw [argF_3, dsA]
    -- the arguments, once the shape is right
    have hloop : shapeOk data vars kd nm l.length = true → ∀ (k : List CI), k = [.code (.seq (.reg [⟨some 6, .mv (.c (.d (.bool true))), none⟩] [6]) .ret)] →
        Run x_r6_valid (fun v σ' => v = .d (.bool (validT data vars (.mk kd nm l))) ∧ σ' = σ) (.again c_r6_valid_L0 :: .blk 1 :: k) (put 0 (.d (.sl (data.map Dat.enc))) (put 2 (.d (.int .i64 vars)) (put 4 (.lp 4 0) (put 7 (.d (.int .i64 l.length)) (put 8 (.d (.int .i64 ((0 : Nat) : Int))) U))))) (putL 4 [.d (.int .i64 kd), .d (.int .i64 nm), .d (.sl (Ty.encs l))] E) σ := by
      rintro hs k rfl
      refine Run.loopI (fun i : Nat => put 0 (.d (.sl (data.map Dat.enc))) (put 2 (.d (.int .i64 vars)) (put 4 (.lp 4 0) (put 7 (.d (.int .i64 l.length)) (put 8 (.d (.int .i64 (i : Int))) U))))) (fun _ => putL 4 [.d (.int .i64 kd), .d (.int .i64 nm), .d (.sl (Ty.encs l))] E) (fun _ => σ)
        (fun i => i ≤ l.length ∧ validTs data vars (l.take i) = true) (fun i => l.length - i) ?_ 0 ⟨by simp, by simp [validTs]⟩
      rintro i ⟨hi, hok⟩ ih2
      by_cases hlt : i < l.length
      · obtain ⟨t', ht⟩ := ex_at hlt
        have hs1 : Ty.sizes (l.take (i + 1)) = Ty.sizes (l.take i) + t'.size := by rw [take_snoc ht, sizes_snoc]
        have hs2 := sizes_take l (i + 1)
        have hv1 : validTs data vars (l.take (i + 1)) = (validTs data vars (l.take i) && validT data vars t') := by rw [take_snoc ht, validTs_snoc]
        have hbad := validTs_get (data := data) (vars := vars) ht
        obtain ⟨kd', nm', al⟩ := t'
        have he := encs_at ht
        have hw1 := wrap_succ (show i + 1 ≤ 9000000000000000000 by omega)
        have hcall := ih ((Ty.mk kd' nm' al).size) (by omega) (.mk kd' nm' al) σ (Nat.le_refl _) (by omega)
        cases hv : validT data vars (.mk kd' nm' al) with
        | true =>
          rw [hv] at hcall hv1
          (repeat' (first
      | refine Run.seq ?_
      | refine Run.skip ?_
      | refine Run.block ?_
      | refine Run.blk ?_
      | refine Run.scope ?_
      | refine Run.scp ?_
      | (refine Run.exit rfl ?_)
      | (refine Run.reg mixed ?_; simp -implicitDefEqProofs only [lt_t hlt, he, hw1, rs_r6_valid, Bool.not_eq_true', Bool.not_eq_false', go_sem, eq_self, Nat.reduceEqDiff, Nat.reduceBEq, Nat.reduceAdd, Nat.reduceLeDiff, reduceIte, reduceCtorEq, tysA, tyA, Ty.enc, Ty.encs])
      | (refine Run.condM ?_; simp -implicitDefEqProofs only [lt_t hlt, he, hw1, rs_r6_valid, Bool.not_eq_true', Bool.not_eq_false', go_sem, eq_self, Nat.reduceEqDiff, Nat.reduceBEq, Nat.reduceAdd, Nat.reduceLeDiff, reduceIte, reduceCtorEq, tysA, tyA, Ty.enc, Ty.encs])
      | (refine XCall.det (hcall) ?_; simp -implicitDefEqProofs only [lt_t hlt, he, hw1, rs_r6_valid, Bool.not_eq_true', Bool.not_eq_false', go_sem, eq_self, Nat.reduceEqDiff, Nat.reduceBEq, Nat.reduceAdd, Nat.reduceLeDiff, reduceIte, reduceCtorEq, tysA, tyA, Ty.enc, Ty.encs])
      | (refine xo_gs rfl (fun h => ?_) (fun h => ?_) <;> first | (cases h; done) | simp -implicitDefEqProofs only [lt_t hlt, he, hw1, rs_r6_valid, Bool.not_eq_true', Bool.not_eq_false', go_sem, eq_self, Nat.reduceEqDiff, Nat.reduceBEq, Nat.reduceAdd, Nat.reduceLeDiff, reduceIte, reduceCtorEq, tysA, tyA, Ty.enc, Ty.encs])
      | (refine ⟨fun h => ?_, fun h => ?_⟩ <;> first | (cases h; done) | (simp -implicitDefEqProofs only [h]; done) | (try simp -implicitDefEqProofs only [h]))
      | fail))
          exact ih2 (i + 1) ⟨by omega, by rw [hv1, hok]; rfl⟩ (by omega)
        | false =>
          rw [hv] at hcall
          (repeat' (first
      | refine Run.seq ?_
      | refine Run.skip ?_
      | refine Run.block ?_
      | refine Run.blk ?_
      | refine Run.scope ?_
      | refine Run.scp ?_
      | (refine Run.exit rfl ?_)
      | (refine Run.reg mixed ?_; simp -implicitDefEqProofs only [lt_t hlt, he, hw1, rs_r6_valid, Bool.not_eq_true', Bool.not_eq_false', go_sem, eq_self, Nat.reduceEqDiff, Nat.reduceBEq, Nat.reduceAdd, Nat.reduceLeDiff, reduceIte, reduceCtorEq, tysA, tyA, Ty.enc, Ty.encs])
      | (refine Run.condM ?_; simp -implicitDefEqProofs only [lt_t hlt, he, hw1, rs_r6_valid, Bool.not_eq_true', Bool.not_eq_false', go_sem, eq_self, Nat.reduceEqDiff, Nat.reduceBEq, Nat.reduceAdd, Nat.reduceLeDiff, reduceIte, reduceCtorEq, tysA, tyA, Ty.enc, Ty.encs])
      | (refine Run.retP g_r6_valid (Heap.le_refl _) ?_; simp -implicitDefEqProofs only [rs_r6_valid, lt_t hlt, he, hw1, go_sem, eq_self, Nat.reduceEqDiff, Nat.reduceBEq, Nat.reduceAdd, Nat.reduceLeDiff, reduceIte, reduceCtorEq, tysA, tyA, Ty.enc, Ty.encs])
      | (refine XCall.det (hcall) ?_; simp -implicitDefEqProofs only [lt_t hlt, he, hw1, rs_r6_valid, Bool.not_eq_true', Bool.not_eq_false', go_sem, eq_self, Nat.reduceEqDiff, Nat.reduceBEq, Nat.reduceAdd, Nat.reduceLeDiff, reduceIte, reduceCtorEq, tysA, tyA, Ty.enc, Ty.encs])
      | (refine xo_gs rfl (fun h => ?_) (fun h => ?_) <;> first | (cases h; done) | simp -implicitDefEqProofs only [lt_t hlt, he, hw1, rs_r6_valid, Bool.not_eq_true', Bool.not_eq_false', go_sem, eq_self, Nat.reduceEqDiff, Nat.reduceBEq, Nat.reduceAdd, Nat.reduceLeDiff, reduceIte, reduceCtorEq, tysA, tyA, Ty.enc, Ty.encs])
      | (refine ⟨fun h => ?_, fun h => ?_⟩ <;> first | (cases h; done) | (simp -implicitDefEqProofs only [h]; done) | (try simp -implicitDefEqProofs only [h]))
      | fail))
          simp [validT, hbad hv]
      · rw [List.take_of_length_le (by omega)] at hok
        (repeat' (first
      | refine Run.seq ?_
      | refine Run.skip ?_
      | refine Run.block ?_
      | refine Run.blk ?_
      | refine Run.scope ?_
      | refine Run.scp ?_
      | (refine Run.exit rfl ?_)
      | (refine Run.reg mixed ?_; simp -implicitDefEqProofs only [lt_f hlt, rs_r6_valid, Bool.not_eq_true', Bool.not_eq_false', go_sem, eq_self, Nat.reduceEqDiff, Nat.reduceBEq, Nat.reduceAdd, Nat.reduceLeDiff, reduceIte, reduceCtorEq, tysA, tyA, Ty.enc, Ty.encs])
      | (refine Run.condM ?_; simp -implicitDefEqProofs only [lt_f hlt, rs_r6_valid, Bool.not_eq_true', Bool.not_eq_false', go_sem, eq_self, Nat.reduceEqDiff, Nat.reduceBEq, Nat.reduceAdd, Nat.reduceLeDiff, reduceIte, reduceCtorEq, tysA, tyA, Ty.enc, Ty.encs])
      | (refine Run.retP g_r6_valid (Heap.le_refl _) ?_; simp -implicitDefEqProofs only [rs_r6_valid, lt_f hlt, go_sem, eq_self, Nat.reduceEqDiff, Nat.reduceBEq, Nat.reduceAdd, Nat.reduceLeDiff, reduceIte, reduceCtorEq, tysA, tyA, Ty.enc, Ty.encs])
      | (refine xo_gs rfl (fun h => ?_) (fun h => ?_) <;> first | (cases h; done) | simp -implicitDefEqProofs only [lt_f hlt, rs_r6_valid, Bool.not_eq_true', Bool.not_eq_false', go_sem, eq_self, Nat.reduceEqDiff, Nat.reduceBEq, Nat.reduceAdd, Nat.reduceLeDiff, reduceIte, reduceCtorEq, tysA, tyA, Ty.enc, Ty.encs])
      | (refine ⟨fun h => ?_, fun h => ?_⟩ <;> first | (cases h; done) | (simp -implicitDefEqProofs only [h]; done) | (try simp -implicitDefEqProofs only [h]))
      | fail))
        simp [validT, hs, hok]
    have hno : shapeOk data vars kd nm l.length = false → AV.d (.bool false) = .d (.bool (validT data vars (.mk kd nm l))) := fun h => by simp [validT, h]
    have hemp : l.length = 0 → validTs data vars l = true := fun h => by rw [List.length_eq_zero_iff.1 h]; rfl

    by_cases k1 : kd = 1
    · subst k1
      have e1 : ((1 : Int) == 1) = true := by decide
      have e2 : ((1 : Int) == 2) = false := by decide
      have e3 : ((1 : Int) == 3) = false := by decide
      have e4 : ((1 : Int) == 4) = false := by decide
      have e5 : ((1 : Int) == 5) = false := by decide
      have e6 : ((1 : Int) == 6) = false := by decide
      have e7 : ((1 : Int) == 7) = false := by decide
      have e8 : ((1 : Int) == 8) = false := by decide
      have e9 : ((1 : Int) == 9) = false := by decide
      by_cases hn : nm = 0
      case neg =>
        (repeat' (first
      | refine Run.seq ?_
      | refine Run.skip ?_
      | refine Run.block ?_
      | refine Run.blk ?_
      | refine Run.scope ?_
      | refine Run.scp ?_
      | (refine Run.exit rfl ?_)
      | (refine Run.reg mixed ?_; simp -implicitDefEqProofs only [e1, e2, e3, e4, e5, e6, e7, e8, e9, encs_len, beqF hn, rs_r6_valid, Bool.not_eq_true', Bool.not_eq_false', go_sem, eq_self, Nat.reduceEqDiff, Nat.reduceBEq, Nat.reduceAdd, Nat.reduceLeDiff, reduceIte, reduceCtorEq, tysA, tyA, Ty.enc, Ty.encs])
      | (refine Run.condM ?_; simp -implicitDefEqProofs only [e1, e2, e3, e4, e5, e6, e7, e8, e9, encs_len, beqF hn, rs_r6_valid, Bool.not_eq_true', Bool.not_eq_false', go_sem, eq_self, Nat.reduceEqDiff, Nat.reduceBEq, Nat.reduceAdd, Nat.reduceLeDiff, reduceIte, reduceCtorEq, tysA, tyA, Ty.enc, Ty.encs])
      | (refine Run.retP g_r6_valid (Heap.le_refl _) ?_; simp -implicitDefEqProofs only [rs_r6_valid, e1, e2, e3, e4, e5, e6, e7, e8, e9, encs_len, beqF hn, go_sem, eq_self, Nat.reduceEqDiff, Nat.reduceBEq, Nat.reduceAdd, Nat.reduceLeDiff, reduceIte, reduceCtorEq, tysA, tyA, Ty.enc, Ty.encs])
      | (refine xo_gs rfl (fun h => ?_) (fun h => ?_) <;> first | (cases h; done) | simp -implicitDefEqProofs only [e1, e2, e3, e4, e5, e6, e7, e8, e9, encs_len, beqF hn, rs_r6_valid, Bool.not_eq_true', Bool.not_eq_false', go_sem, eq_self, Nat.reduceEqDiff, Nat.reduceBEq, Nat.reduceAdd, Nat.reduceLeDiff, reduceIte, reduceCtorEq, tysA, tyA, Ty.enc, Ty.encs])
      | (refine ⟨fun h => ?_, fun h => ?_⟩ <;> first | (cases h; done) | (simp -implicitDefEqProofs only [h]; done) | (try simp -implicitDefEqProofs only [h]))
      | fail))
        simp [validT, shapeOk, hn]
      cases hl : (l.length == 0) with
      | true =>
        (repeat' (first
      | refine Run.seq ?_
      | refine Run.skip ?_
      | refine Run.block ?_
      | refine Run.blk ?_
      | refine Run.scope ?_
      | refine Run.scp ?_
      | (refine Run.exit rfl ?_)
      | (refine Run.reg mixed ?_; simp -implicitDefEqProofs only [e1, e2, e3, e4, e5, e6, e7, e8, e9, encs_len, beqT hn, len_eq0, hl, rs_r6_valid, Bool.not_eq_true', Bool.not_eq_false', go_sem, eq_self, Nat.reduceEqDiff, Nat.reduceBEq, Nat.reduceAdd, Nat.reduceLeDiff, reduceIte, reduceCtorEq, tysA, tyA, Ty.enc, Ty.encs])
      | (refine Run.condM ?_; simp -implicitDefEqProofs only [e1, e2, e3, e4, e5, e6, e7, e8, e9, encs_len, beqT hn, len_eq0, hl, rs_r6_valid, Bool.not_eq_true', Bool.not_eq_false', go_sem, eq_self, Nat.reduceEqDiff, Nat.reduceBEq, Nat.reduceAdd, Nat.reduceLeDiff, reduceIte, reduceCtorEq, tysA, tyA, Ty.enc, Ty.encs])
      | (refine Run.retP g_r6_valid (Heap.le_refl _) ?_; simp -implicitDefEqProofs only [rs_r6_valid, e1, e2, e3, e4, e5, e6, e7, e8, e9, encs_len, beqT hn, len_eq0, hl, go_sem, eq_self, Nat.reduceEqDiff, Nat.reduceBEq, Nat.reduceAdd, Nat.reduceLeDiff, reduceIte, reduceCtorEq, tysA, tyA, Ty.enc, Ty.encs])
      | (refine xo_gs rfl (fun h => ?_) (fun h => ?_) <;> first | (cases h; done) | simp -implicitDefEqProofs only [e1, e2, e3, e4, e5, e6, e7, e8, e9, encs_len, beqT hn, len_eq0, hl, rs_r6_valid, Bool.not_eq_true', Bool.not_eq_false', go_sem, eq_self, Nat.reduceEqDiff, Nat.reduceBEq, Nat.reduceAdd, Nat.reduceLeDiff, reduceIte, reduceCtorEq, tysA, tyA, Ty.enc, Ty.encs])
      | (refine ⟨fun h => ?_, fun h => ?_⟩ <;> first | (cases h; done) | (simp -implicitDefEqProofs only [h]; done) | (try simp -implicitDefEqProofs only [h]))
      | fail))
        have h0 : l.length = 0 := by simpa using hl
        simp [validT, shapeOk, hn, h0, hemp h0]
      | false =>
        (repeat' (first
      | refine Run.seq ?_
      | refine Run.skip ?_
      | refine Run.block ?_
      | refine Run.blk ?_
      | refine Run.scope ?_
      | refine Run.scp ?_
      | (refine Run.exit rfl ?_)
      | (refine Run.reg mixed ?_; simp -implicitDefEqProofs only [e1, e2, e3, e4, e5, e6, e7, e8, e9, encs_len, beqT hn, len_eq0, hl, rs_r6_valid, Bool.not_eq_true', Bool.not_eq_false', go_sem, eq_self, Nat.reduceEqDiff, Nat.reduceBEq, Nat.reduceAdd, Nat.reduceLeDiff, reduceIte, reduceCtorEq, tysA, tyA, Ty.enc, Ty.encs])
      | (refine Run.condM ?_; simp -implicitDefEqProofs only [e1, e2, e3, e4, e5, e6, e7, e8, e9, encs_len, beqT hn, len_eq0, hl, rs_r6_valid, Bool.not_eq_true', Bool.not_eq_false', go_sem, eq_self, Nat.reduceEqDiff, Nat.reduceBEq, Nat.reduceAdd, Nat.reduceLeDiff, reduceIte, reduceCtorEq, tysA, tyA, Ty.enc, Ty.encs])
      | (refine Run.retP g_r6_valid (Heap.le_refl _) ?_; simp -implicitDefEqProofs only [rs_r6_valid, e1, e2, e3, e4, e5, e6, e7, e8, e9, encs_len, beqT hn, len_eq0, hl, go_sem, eq_self, Nat.reduceEqDiff, Nat.reduceBEq, Nat.reduceAdd, Nat.reduceLeDiff, reduceIte, reduceCtorEq, tysA, tyA, Ty.enc, Ty.encs])
      | (refine xo_gs rfl (fun h => ?_) (fun h => ?_) <;> first | (cases h; done) | simp -implicitDefEqProofs only [e1, e2, e3, e4, e5, e6, e7, e8, e9, encs_len, beqT hn, len_eq0, hl, rs_r6_valid, Bool.not_eq_true', Bool.not_eq_false', go_sem, eq_self, Nat.reduceEqDiff, Nat.reduceBEq, Nat.reduceAdd, Nat.reduceLeDiff, reduceIte, reduceCtorEq, tysA, tyA, Ty.enc, Ty.encs])
      | (refine ⟨fun h => ?_, fun h => ?_⟩ <;> first | (cases h; done) | (simp -implicitDefEqProofs only [h]; done) | (try simp -implicitDefEqProofs only [h]))
      | fail))
        have h0 : ¬ l.length = 0 := by simpa using hl
        simp [validT, shapeOk, hn, h0]
    by_cases k2 : kd = 2
    · subst k2
      have e1 : ((2 : Int) == 1) = false := by decide
      have e2 : ((2 : Int) == 2) = true := by decide
      have e3 : ((2 : Int) == 3) = false := by decide
      have e4 : ((2 : Int) == 4) = false := by decide
      have e5 : ((2 : Int) == 5) = false := by decide
      have e6 : ((2 : Int) == 6) = false := by decide
      have e7 : ((2 : Int) == 7) = false := by decide
      have e8 : ((2 : Int) == 8) = false := by decide
      have e9 : ((2 : Int) == 9) = false := by decide
      by_cases hn : nm = 0
      case neg =>
        (repeat' (first
      | refine Run.seq ?_
      | refine Run.skip ?_
      | refine Run.block ?_
      | refine Run.blk ?_
      | refine Run.scope ?_
      | refine Run.scp ?_
      | (refine Run.exit rfl ?_)
      | (refine Run.reg mixed ?_; simp -implicitDefEqProofs only [e1, e2, e3, e4, e5, e6, e7, e8, e9, encs_len, beqF hn, rs_r6_valid, Bool.not_eq_true', Bool.not_eq_false', go_sem, eq_self, Nat.reduceEqDiff, Nat.reduceBEq, Nat.reduceAdd, Nat.reduceLeDiff, reduceIte, reduceCtorEq, tysA, tyA, Ty.enc, Ty.encs])
      | (refine Run.condM ?_; simp -implicitDefEqProofs only [e1, e2, e3, e4, e5, e6, e7, e8, e9, encs_len, beqF hn, rs_r6_valid, Bool.not_eq_true', Bool.not_eq_false', go_sem, eq_self, Nat.reduceEqDiff, Nat.reduceBEq, Nat.reduceAdd, Nat.reduceLeDiff, reduceIte, reduceCtorEq, tysA, tyA, Ty.enc, Ty.encs])
      | (refine Run.retP g_r6_valid (Heap.le_refl _) ?_; simp -implicitDefEqProofs only [rs_r6_valid, e1, e2, e3, e4, e5, e6, e7, e8, e9, encs_len, beqF hn, go_sem, eq_self, Nat.reduceEqDiff, Nat.reduceBEq, Nat.reduceAdd, Nat.reduceLeDiff, reduceIte, reduceCtorEq, tysA, tyA, Ty.enc, Ty.encs])
      | (refine xo_gs rfl (fun h => ?_) (fun h => ?_) <;> first | (cases h; done) | simp -implicitDefEqProofs only [e1, e2, e3, e4, e5, e6, e7, e8, e9, encs_len, beqF hn, rs_r6_valid, Bool.not_eq_true', Bool.not_eq_false', go_sem, eq_self, Nat.reduceEqDiff, Nat.reduceBEq, Nat.reduceAdd, Nat.reduceLeDiff, reduceIte, reduceCtorEq, tysA, tyA, Ty.enc, Ty.encs])
      | (refine ⟨fun h => ?_, fun h => ?_⟩ <;> first | (cases h; done) | (simp -implicitDefEqProofs only [h]; done) | (try simp -implicitDefEqProofs only [h]))
      | fail))
        simp [validT, shapeOk, hn]
      cases hl : (l.length == 0) with
      | true =>
        (repeat' (first
      | refine Run.seq ?_
      | refine Run.skip ?_
      | refine Run.block ?_
      | refine Run.blk ?_
      | refine Run.scope ?_
      | refine Run.scp ?_
      | (refine Run.exit rfl ?_)
      | (refine Run.reg mixed ?_; simp -implicitDefEqProofs only [e1, e2, e3, e4, e5, e6, e7, e8, e9, encs_len, beqT hn, len_eq0, hl, rs_r6_valid, Bool.not_eq_true', Bool.not_eq_false', go_sem, eq_self, Nat.reduceEqDiff, Nat.reduceBEq, Nat.reduceAdd, Nat.reduceLeDiff, reduceIte, reduceCtorEq, tysA, tyA, Ty.enc, Ty.encs])
      | (refine Run.condM ?_; simp -implicitDefEqProofs only [e1, e2, e3, e4, e5, e6, e7, e8, e9, encs_len, beqT hn, len_eq0, hl, rs_r6_valid, Bool.not_eq_true', Bool.not_eq_false', go_sem, eq_self, Nat.reduceEqDiff, Nat.reduceBEq, Nat.reduceAdd, Nat.reduceLeDiff, reduceIte, reduceCtorEq, tysA, tyA, Ty.enc, Ty.encs])
      | (refine Run.retP g_r6_valid (Heap.le_refl _) ?_; simp -implicitDefEqProofs only [rs_r6_valid, e1, e2, e3, e4, e5, e6, e7, e8, e9, encs_len, beqT hn, len_eq0, hl, go_sem, eq_self, Nat.reduceEqDiff, Nat.reduceBEq, Nat.reduceAdd, Nat.reduceLeDiff, reduceIte, reduceCtorEq, tysA, tyA, Ty.enc, Ty.encs])
      | (refine xo_gs rfl (fun h => ?_) (fun h => ?_) <;> first | (cases h; done) | simp -implicitDefEqProofs only [e1, e2, e3, e4, e5, e6, e7, e8, e9, encs_len, beqT hn, len_eq0, hl, rs_r6_valid, Bool.not_eq_true', Bool.not_eq_false', go_sem, eq_self, Nat.reduceEqDiff, Nat.reduceBEq, Nat.reduceAdd, Nat.reduceLeDiff, reduceIte, reduceCtorEq, tysA, tyA, Ty.enc, Ty.encs])
      | (refine ⟨fun h => ?_, fun h => ?_⟩ <;> first | (cases h; done) | (simp -implicitDefEqProofs only [h]; done) | (try simp -implicitDefEqProofs only [h]))
      | fail))
        have h0 : l.length = 0 := by simpa using hl
        simp [validT, shapeOk, hn, h0, hemp h0]
      | false =>
        (repeat' (first
      | refine Run.seq ?_
      | refine Run.skip ?_
      | refine Run.block ?_
      | refine Run.blk ?_
      | refine Run.scope ?_
      | refine Run.scp ?_
      | (refine Run.exit rfl ?_)
      | (refine Run.reg mixed ?_; simp -implicitDefEqProofs only [e1, e2, e3, e4, e5, e6, e7, e8, e9, encs_len, beqT hn, len_eq0, hl, rs_r6_valid, Bool.not_eq_true', Bool.not_eq_false', go_sem, eq_self, Nat.reduceEqDiff, Nat.reduceBEq, Nat.reduceAdd, Nat.reduceLeDiff, reduceIte, reduceCtorEq, tysA, tyA, Ty.enc, Ty.encs])
      | (refine Run.condM ?_; simp -implicitDefEqProofs only [e1, e2, e3, e4, e5, e6, e7, e8, e9, encs_len, beqT hn, len_eq0, hl, rs_r6_valid, Bool.not_eq_true', Bool.not_eq_false', go_sem, eq_self, Nat.reduceEqDiff, Nat.reduceBEq, Nat.reduceAdd, Nat.reduceLeDiff, reduceIte, reduceCtorEq, tysA, tyA, Ty.enc, Ty.encs])
      | (refine Run.retP g_r6_valid (Heap.le_refl _) ?_; simp -implicitDefEqProofs only [rs_r6_valid, e1, e2, e3, e4, e5, e6, e7, e8, e9, encs_len, beqT hn, len_eq0, hl, go_sem, eq_self, Nat.reduceEqDiff, Nat.reduceBEq, Nat.reduceAdd, Nat.reduceLeDiff, reduceIte, reduceCtorEq, tysA, tyA, Ty.enc, Ty.encs])
      | (refine xo_gs rfl (fun h => ?_) (fun h => ?_) <;> first | (cases h; done) | simp -implicitDefEqProofs only [e1, e2, e3, e4, e5, e6, e7, e8, e9, encs_len, beqT hn, len_eq0, hl, rs_r6_valid, Bool.not_eq_true', Bool.not_eq_false', go_sem, eq_self, Nat.reduceEqDiff, Nat.reduceBEq, Nat.reduceAdd, Nat.reduceLeDiff, reduceIte, reduceCtorEq, tysA, tyA, Ty.enc, Ty.encs])
      | (refine ⟨fun h => ?_, fun h => ?_⟩ <;> first | (cases h; done) | (simp -implicitDefEqProofs only [h]; done) | (try simp -implicitDefEqProofs only [h]))
      | fail))
        have h0 : ¬ l.length = 0 := by simpa using hl
        simp [validT, shapeOk, hn, h0]
    by_cases k3 : kd = 3
    · subst k3
      have e1 : ((3 : Int) == 1) = false := by decide
      have e2 : ((3 : Int) == 2) = false := by decide
      have e3 : ((3 : Int) == 3) = true := by decide
      have e4 : ((3 : Int) == 4) = false := by decide
      have e5 : ((3 : Int) == 5) = false := by decide
      have e6 : ((3 : Int) == 6) = false := by decide
      have e7 : ((3 : Int) == 7) = false := by decide
      have e8 : ((3 : Int) == 8) = false := by decide
      have e9 : ((3 : Int) == 9) = false := by decide
      by_cases hn : nm = 0
      case neg =>
        (repeat' (first
      | refine Run.seq ?_
      | refine Run.skip ?_
      | refine Run.block ?_
      | refine Run.blk ?_
      | refine Run.scope ?_
      | refine Run.scp ?_
      | (refine Run.exit rfl ?_)
      | (refine Run.reg mixed ?_; simp -implicitDefEqProofs only [e1, e2, e3, e4, e5, e6, e7, e8, e9, encs_len, beqF hn, rs_r6_valid, Bool.not_eq_true', Bool.not_eq_false', go_sem, eq_self, Nat.reduceEqDiff, Nat.reduceBEq, Nat.reduceAdd, Nat.reduceLeDiff, reduceIte, reduceCtorEq, tysA, tyA, Ty.enc, Ty.encs])
      | (refine Run.condM ?_; simp -implicitDefEqProofs only [e1, e2, e3, e4, e5, e6, e7, e8, e9, encs_len, beqF hn, rs_r6_valid, Bool.not_eq_true', Bool.not_eq_false', go_sem, eq_self, Nat.reduceEqDiff, Nat.reduceBEq, Nat.reduceAdd, Nat.reduceLeDiff, reduceIte, reduceCtorEq, tysA, tyA, Ty.enc, Ty.encs])
      | (refine Run.retP g_r6_valid (Heap.le_refl _) ?_; simp -implicitDefEqProofs only [rs_r6_valid, e1, e2, e3, e4, e5, e6, e7, e8, e9, encs_len, beqF hn, go_sem, eq_self, Nat.reduceEqDiff, Nat.reduceBEq, Nat.reduceAdd, Nat.reduceLeDiff, reduceIte, reduceCtorEq, tysA, tyA, Ty.enc, Ty.encs])
      | (refine xo_gs rfl (fun h => ?_) (fun h => ?_) <;> first | (cases h; done) | simp -implicitDefEqProofs only [e1, e2, e3, e4, e5, e6, e7, e8, e9, encs_len, beqF hn, rs_r6_valid, Bool.not_eq_true', Bool.not_eq_false', go_sem, eq_self, Nat.reduceEqDiff, Nat.reduceBEq, Nat.reduceAdd, Nat.reduceLeDiff, reduceIte, reduceCtorEq, tysA, tyA, Ty.enc, Ty.encs])
      | (refine ⟨fun h => ?_, fun h => ?_⟩ <;> first | (cases h; done) | (simp -implicitDefEqProofs only [h]; done) | (try simp -implicitDefEqProofs only [h]))
      | fail))
        simp [validT, shapeOk, hn]
      cases hl : (l.length == 0) with
      | true =>
        (repeat' (first
      | refine Run.seq ?_
      | refine Run.skip ?_
      | refine Run.block ?_
      | refine Run.blk ?_
      | refine Run.scope ?_
      | refine Run.scp ?_
      | (refine Run.exit rfl ?_)
      | (refine Run.reg mixed ?_; simp -implicitDefEqProofs only [e1, e2, e3, e4, e5, e6, e7, e8, e9, encs_len, beqT hn, len_eq0, hl, rs_r6_valid, Bool.not_eq_true', Bool.not_eq_false', go_sem, eq_self, Nat.reduceEqDiff, Nat.reduceBEq, Nat.reduceAdd, Nat.reduceLeDiff, reduceIte, reduceCtorEq, tysA, tyA, Ty.enc, Ty.encs])
      | (refine Run.condM ?_; simp -implicitDefEqProofs only [e1, e2, e3, e4, e5, e6, e7, e8, e9, encs_len, beqT hn, len_eq0, hl, rs_r6_valid, Bool.not_eq_true', Bool.not_eq_false', go_sem, eq_self, Nat.reduceEqDiff, Nat.reduceBEq, Nat.reduceAdd, Nat.reduceLeDiff, reduceIte, reduceCtorEq, tysA, tyA, Ty.enc, Ty.encs])
      | (refine Run.retP g_r6_valid (Heap.le_refl _) ?_; simp -implicitDefEqProofs only [rs_r6_valid, e1, e2, e3, e4, e5, e6, e7, e8, e9, encs_len, beqT hn, len_eq0, hl, go_sem, eq_self, Nat.reduceEqDiff, Nat.reduceBEq, Nat.reduceAdd, Nat.reduceLeDiff, reduceIte, reduceCtorEq, tysA, tyA, Ty.enc, Ty.encs])
      | (refine xo_gs rfl (fun h => ?_) (fun h => ?_) <;> first | (cases h; done) | simp -implicitDefEqProofs only [e1, e2, e3, e4, e5, e6, e7, e8, e9, encs_len, beqT hn, len_eq0, hl, rs_r6_valid, Bool.not_eq_true', Bool.not_eq_false', go_sem, eq_self, Nat.reduceEqDiff, Nat.reduceBEq, Nat.reduceAdd, Nat.reduceLeDiff, reduceIte, reduceCtorEq, tysA, tyA, Ty.enc, Ty.encs])
      | (refine ⟨fun h => ?_, fun h => ?_⟩ <;> first | (cases h; done) | (simp -implicitDefEqProofs only [h]; done) | (try simp -implicitDefEqProofs only [h]))
      | fail))
        have h0 : l.length = 0 := by simpa using hl
        simp [validT, shapeOk, hn, h0, hemp h0]
      | false =>
        (repeat' (first
      | refine Run.seq ?_
      | refine Run.skip ?_
      | refine Run.block ?_
      | refine Run.blk ?_
      | refine Run.scope ?_
      | refine Run.scp ?_
      | (refine Run.exit rfl ?_)
      | (refine Run.reg mixed ?_; simp -implicitDefEqProofs only [e1, e2, e3, e4, e5, e6, e7, e8, e9, encs_len, beqT hn, len_eq0, hl, rs_r6_valid, Bool.not_eq_true', Bool.not_eq_false', go_sem, eq_self, Nat.reduceEqDiff, Nat.reduceBEq, Nat.reduceAdd, Nat.reduceLeDiff, reduceIte, reduceCtorEq, tysA, tyA, Ty.enc, Ty.encs])
      | (refine Run.condM ?_; simp -implicitDefEqProofs only [e1, e2, e3, e4, e5, e6, e7, e8, e9, encs_len, beqT hn, len_eq0, hl, rs_r6_valid, Bool.not_eq_true', Bool.not_eq_false', go_sem, eq_self, Nat.reduceEqDiff, Nat.reduceBEq, Nat.reduceAdd, Nat.reduceLeDiff, reduceIte, reduceCtorEq, tysA, tyA, Ty.enc, Ty.encs])
      | (refine Run.retP g_r6_valid (Heap.le_refl _) ?_; simp -implicitDefEqProofs only [rs_r6_valid, e1, e2, e3, e4, e5, e6, e7, e8, e9, encs_len, beqT hn, len_eq0, hl, go_sem, eq_self, Nat.reduceEqDiff, Nat.reduceBEq, Nat.reduceAdd, Nat.reduceLeDiff, reduceIte, reduceCtorEq, tysA, tyA, Ty.enc, Ty.encs])
      | (refine xo_gs rfl (fun h => ?_) (fun h => ?_) <;> first | (cases h; done) | simp -implicitDefEqProofs only [e1, e2, e3, e4, e5, e6, e7, e8, e9, encs_len, beqT hn, len_eq0, hl, rs_r6_valid, Bool.not_eq_true', Bool.not_eq_false', go_sem, eq_self, Nat.reduceEqDiff, Nat.reduceBEq, Nat.reduceAdd, Nat.reduceLeDiff, reduceIte, reduceCtorEq, tysA, tyA, Ty.enc, Ty.encs])
      | (refine ⟨fun h => ?_, fun h => ?_⟩ <;> first | (cases h; done) | (simp -implicitDefEqProofs only [h]; done) | (try simp -implicitDefEqProofs only [h]))
      | fail))
        have h0 : ¬ l.length = 0 := by simpa using hl
        simp [validT, shapeOk, hn, h0]
    by_cases k4 : kd = 4
    · subst k4
      have e1 : ((4 : Int) == 1) = false := by decide
      have e2 : ((4 : Int) == 2) = false := by decide
      have e3 : ((4 : Int) == 3) = false := by decide
      have e4 : ((4 : Int) == 4) = true := by decide
      have e5 : ((4 : Int) == 5) = false := by decide
      have e6 : ((4 : Int) == 6) = false := by decide
      have e7 : ((4 : Int) == 7) = false := by decide
      have e8 : ((4 : Int) == 8) = false := by decide
      have e9 : ((4 : Int) == 9) = false := by decide
      by_cases hn : 0 ≤ nm
      case neg =>
        (repeat' (first
      | refine Run.seq ?_
      | refine Run.skip ?_
      | refine Run.block ?_
      | refine Run.blk ?_
      | refine Run.scope ?_
      | refine Run.scp ?_
      | (refine Run.exit rfl ?_)
      | (refine Run.reg mixed ?_; simp -implicitDefEqProofs only [e1, e2, e3, e4, e5, e6, e7, e8, e9, encs_len, decide_eq_false hn, rs_r6_valid, Bool.not_eq_true', Bool.not_eq_false', go_sem, eq_self, Nat.reduceEqDiff, Nat.reduceBEq, Nat.reduceAdd, Nat.reduceLeDiff, reduceIte, reduceCtorEq, tysA, tyA, Ty.enc, Ty.encs])
      | (refine Run.condM ?_; simp -implicitDefEqProofs only [e1, e2, e3, e4, e5, e6, e7, e8, e9, encs_len, decide_eq_false hn, rs_r6_valid, Bool.not_eq_true', Bool.not_eq_false', go_sem, eq_self, Nat.reduceEqDiff, Nat.reduceBEq, Nat.reduceAdd, Nat.reduceLeDiff, reduceIte, reduceCtorEq, tysA, tyA, Ty.enc, Ty.encs])
      | (refine Run.retP g_r6_valid (Heap.le_refl _) ?_; simp -implicitDefEqProofs only [rs_r6_valid, e1, e2, e3, e4, e5, e6, e7, e8, e9, encs_len, decide_eq_false hn, go_sem, eq_self, Nat.reduceEqDiff, Nat.reduceBEq, Nat.reduceAdd, Nat.reduceLeDiff, reduceIte, reduceCtorEq, tysA, tyA, Ty.enc, Ty.encs])
      | (refine xo_gs rfl (fun h => ?_) (fun h => ?_) <;> first | (cases h; done) | simp -implicitDefEqProofs only [e1, e2, e3, e4, e5, e6, e7, e8, e9, encs_len, decide_eq_false hn, rs_r6_valid, Bool.not_eq_true', Bool.not_eq_false', go_sem, eq_self, Nat.reduceEqDiff, Nat.reduceBEq, Nat.reduceAdd, Nat.reduceLeDiff, reduceIte, reduceCtorEq, tysA, tyA, Ty.enc, Ty.encs])
      | (refine ⟨fun h => ?_, fun h => ?_⟩ <;> first | (cases h; done) | (simp -implicitDefEqProofs only [h]; done) | (try simp -implicitDefEqProofs only [h]))
      | fail))
        simp [validT, shapeOk, hn]
      by_cases hn2 : nm < vars
      case neg =>
        (repeat' (first
      | refine Run.seq ?_
      | refine Run.skip ?_
      | refine Run.block ?_
      | refine Run.blk ?_
      | refine Run.scope ?_
      | refine Run.scp ?_
      | (refine Run.exit rfl ?_)
      | (refine Run.reg mixed ?_; simp -implicitDefEqProofs only [e1, e2, e3, e4, e5, e6, e7, e8, e9, encs_len, decide_eq_true hn, decide_eq_false hn2, rs_r6_valid, Bool.not_eq_true', Bool.not_eq_false', go_sem, eq_self, Nat.reduceEqDiff, Nat.reduceBEq, Nat.reduceAdd, Nat.reduceLeDiff, reduceIte, reduceCtorEq, tysA, tyA, Ty.enc, Ty.encs])
      | (refine Run.condM ?_; simp -implicitDefEqProofs only [e1, e2, e3, e4, e5, e6, e7, e8, e9, encs_len, decide_eq_true hn, decide_eq_false hn2, rs_r6_valid, Bool.not_eq_true', Bool.not_eq_false', go_sem, eq_self, Nat.reduceEqDiff, Nat.reduceBEq, Nat.reduceAdd, Nat.reduceLeDiff, reduceIte, reduceCtorEq, tysA, tyA, Ty.enc, Ty.encs])
      | (refine Run.retP g_r6_valid (Heap.le_refl _) ?_; simp -implicitDefEqProofs only [rs_r6_valid, e1, e2, e3, e4, e5, e6, e7, e8, e9, encs_len, decide_eq_true hn, decide_eq_false hn2, go_sem, eq_self, Nat.reduceEqDiff, Nat.reduceBEq, Nat.reduceAdd, Nat.reduceLeDiff, reduceIte, reduceCtorEq, tysA, tyA, Ty.enc, Ty.encs])
      | (refine xo_gs rfl (fun h => ?_) (fun h => ?_) <;> first | (cases h; done) | simp -implicitDefEqProofs only [e1, e2, e3, e4, e5, e6, e7, e8, e9, encs_len, decide_eq_true hn, decide_eq_false hn2, rs_r6_valid, Bool.not_eq_true', Bool.not_eq_false', go_sem, eq_self, Nat.reduceEqDiff, Nat.reduceBEq, Nat.reduceAdd, Nat.reduceLeDiff, reduceIte, reduceCtorEq, tysA, tyA, Ty.enc, Ty.encs])
      | (refine ⟨fun h => ?_, fun h => ?_⟩ <;> first | (cases h; done) | (simp -implicitDefEqProofs only [h]; done) | (try simp -implicitDefEqProofs only [h]))
      | fail))
        simp [validT, shapeOk, hn2]
      cases hl : (l.length == 0) with
      | true =>
        (repeat' (first
      | refine Run.seq ?_
      | refine Run.skip ?_
      | refine Run.block ?_
      | refine Run.blk ?_
      | refine Run.scope ?_
      | refine Run.scp ?_
      | (refine Run.exit rfl ?_)
      | (refine Run.reg mixed ?_; simp -implicitDefEqProofs only [e1, e2, e3, e4, e5, e6, e7, e8, e9, encs_len, decide_eq_true hn, decide_eq_true hn2, len_eq0, hl, rs_r6_valid, Bool.not_eq_true', Bool.not_eq_false', go_sem, eq_self, Nat.reduceEqDiff, Nat.reduceBEq, Nat.reduceAdd, Nat.reduceLeDiff, reduceIte, reduceCtorEq, tysA, tyA, Ty.enc, Ty.encs])
      | (refine Run.condM ?_; simp -implicitDefEqProofs only [e1, e2, e3, e4, e5, e6, e7, e8, e9, encs_len, decide_eq_true hn, decide_eq_true hn2, len_eq0, hl, rs_r6_valid, Bool.not_eq_true', Bool.not_eq_false', go_sem, eq_self, Nat.reduceEqDiff, Nat.reduceBEq, Nat.reduceAdd, Nat.reduceLeDiff, reduceIte, reduceCtorEq, tysA, tyA, Ty.enc, Ty.encs])
      | (refine Run.retP g_r6_valid (Heap.le_refl _) ?_; simp -implicitDefEqProofs only [rs_r6_valid, e1, e2, e3, e4, e5, e6, e7, e8, e9, encs_len, decide_eq_true hn, decide_eq_true hn2, len_eq0, hl, go_sem, eq_self, Nat.reduceEqDiff, Nat.reduceBEq, Nat.reduceAdd, Nat.reduceLeDiff, reduceIte, reduceCtorEq, tysA, tyA, Ty.enc, Ty.encs])
      | (refine xo_gs rfl (fun h => ?_) (fun h => ?_) <;> first | (cases h; done) | simp -implicitDefEqProofs only [e1, e2, e3, e4, e5, e6, e7, e8, e9, encs_len, decide_eq_true hn, decide_eq_true hn2, len_eq0, hl, rs_r6_valid, Bool.not_eq_true', Bool.not_eq_false', go_sem, eq_self, Nat.reduceEqDiff, Nat.reduceBEq, Nat.reduceAdd, Nat.reduceLeDiff, reduceIte, reduceCtorEq, tysA, tyA, Ty.enc, Ty.encs])
      | (refine ⟨fun h => ?_, fun h => ?_⟩ <;> first | (cases h; done) | (simp -implicitDefEqProofs only [h]; done) | (try simp -implicitDefEqProofs only [h]))
      | fail))
        have h0 : l.length = 0 := by simpa using hl
        simp [validT, shapeOk, hn, hn2, h0, hemp h0]
      | false =>
        (repeat' (first
      | refine Run.seq ?_
      | refine Run.skip ?_
      | refine Run.block ?_
      | refine Run.blk ?_
      | refine Run.scope ?_
      | refine Run.scp ?_
      | (refine Run.exit rfl ?_)
      | (refine Run.reg mixed ?_; simp -implicitDefEqProofs only [e1, e2, e3, e4, e5, e6, e7, e8, e9, encs_len, decide_eq_true hn, decide_eq_true hn2, len_eq0, hl, rs_r6_valid, Bool.not_eq_true', Bool.not_eq_false', go_sem, eq_self, Nat.reduceEqDiff, Nat.reduceBEq, Nat.reduceAdd, Nat.reduceLeDiff, reduceIte, reduceCtorEq, tysA, tyA, Ty.enc, Ty.encs])
      | (refine Run.condM ?_; simp -implicitDefEqProofs only [e1, e2, e3, e4, e5, e6, e7, e8, e9, encs_len, decide_eq_true hn, decide_eq_true hn2, len_eq0, hl, rs_r6_valid, Bool.not_eq_true', Bool.not_eq_false', go_sem, eq_self, Nat.reduceEqDiff, Nat.reduceBEq, Nat.reduceAdd, Nat.reduceLeDiff, reduceIte, reduceCtorEq, tysA, tyA, Ty.enc, Ty.encs])
      | (refine Run.retP g_r6_valid (Heap.le_refl _) ?_; simp -implicitDefEqProofs only [rs_r6_valid, e1, e2, e3, e4, e5, e6, e7, e8, e9, encs_len, decide_eq_true hn, decide_eq_true hn2, len_eq0, hl, go_sem, eq_self, Nat.reduceEqDiff, Nat.reduceBEq, Nat.reduceAdd, Nat.reduceLeDiff, reduceIte, reduceCtorEq, tysA, tyA, Ty.enc, Ty.encs])
      | (refine xo_gs rfl (fun h => ?_) (fun h => ?_) <;> first | (cases h; done) | simp -implicitDefEqProofs only [e1, e2, e3, e4, e5, e6, e7, e8, e9, encs_len, decide_eq_true hn, decide_eq_true hn2, len_eq0, hl, rs_r6_valid, Bool.not_eq_true', Bool.not_eq_false', go_sem, eq_self, Nat.reduceEqDiff, Nat.reduceBEq, Nat.reduceAdd, Nat.reduceLeDiff, reduceIte, reduceCtorEq, tysA, tyA, Ty.enc, Ty.encs])
      | (refine ⟨fun h => ?_, fun h => ?_⟩ <;> first | (cases h; done) | (simp -implicitDefEqProofs only [h]; done) | (try simp -implicitDefEqProofs only [h]))
      | fail))
        have h0 : ¬ l.length = 0 := by simpa using hl
        simp [validT, shapeOk, h0]
    by_cases k5 : kd = 5
    · subst k5
      have e1 : ((5 : Int) == 1) = false := by decide
      have e2 : ((5 : Int) == 2) = false := by decide
      have e3 : ((5 : Int) == 3) = false := by decide
      have e4 : ((5 : Int) == 4) = false := by decide
      have e5 : ((5 : Int) == 5) = true := by decide
      have e6 : ((5 : Int) == 6) = false := by decide
      have e7 : ((5 : Int) == 7) = false := by decide
      have e8 : ((5 : Int) == 8) = false := by decide
      have e9 : ((5 : Int) == 9) = false := by decide
      by_cases hn : nm < 0
      ·
        (repeat' (first
      | refine Run.seq ?_
      | refine Run.skip ?_
      | refine Run.block ?_
      | refine Run.blk ?_
      | refine Run.scope ?_
      | refine Run.scp ?_
      | (refine Run.exit rfl ?_)
      | (refine Run.reg mixed ?_; simp -implicitDefEqProofs only [e1, e2, e3, e4, e5, e6, e7, e8, e9, encs_len, decide_eq_true hn, rs_r6_valid, Bool.not_eq_true', Bool.not_eq_false', go_sem, eq_self, Nat.reduceEqDiff, Nat.reduceBEq, Nat.reduceAdd, Nat.reduceLeDiff, reduceIte, reduceCtorEq, tysA, tyA, Ty.enc, Ty.encs])
      | (refine Run.condM ?_; simp -implicitDefEqProofs only [e1, e2, e3, e4, e5, e6, e7, e8, e9, encs_len, decide_eq_true hn, rs_r6_valid, Bool.not_eq_true', Bool.not_eq_false', go_sem, eq_self, Nat.reduceEqDiff, Nat.reduceBEq, Nat.reduceAdd, Nat.reduceLeDiff, reduceIte, reduceCtorEq, tysA, tyA, Ty.enc, Ty.encs])
      | (refine Run.retP g_r6_valid (Heap.le_refl _) ?_; simp -implicitDefEqProofs only [rs_r6_valid, e1, e2, e3, e4, e5, e6, e7, e8, e9, encs_len, decide_eq_true hn, go_sem, eq_self, Nat.reduceEqDiff, Nat.reduceBEq, Nat.reduceAdd, Nat.reduceLeDiff, reduceIte, reduceCtorEq, tysA, tyA, Ty.enc, Ty.encs])
      | (refine xo_gs rfl (fun h => ?_) (fun h => ?_) <;> first | (cases h; done) | simp -implicitDefEqProofs only [e1, e2, e3, e4, e5, e6, e7, e8, e9, encs_len, decide_eq_true hn, rs_r6_valid, Bool.not_eq_true', Bool.not_eq_false', go_sem, eq_self, Nat.reduceEqDiff, Nat.reduceBEq, Nat.reduceAdd, Nat.reduceLeDiff, reduceIte, reduceCtorEq, tysA, tyA, Ty.enc, Ty.encs])
      | (refine ⟨fun h => ?_, fun h => ?_⟩ <;> first | (cases h; done) | (simp -implicitDefEqProofs only [h]; done) | (try simp -implicitDefEqProofs only [h]))
      | fail))
        have hx : ¬ (0 ≤ nm) := by omega
        exact hno (by simp [shapeOk, hx])
      obtain ⟨p, rfl⟩ : ∃ p : Nat, nm = p := ⟨nm.toNat, by omega⟩
      by_cases hp : p < data.length
      case neg =>
        have g1 : decide ((data.length : Int) ≤ (p : Int)) = true := by simp; omega
        (repeat' (first
      | refine Run.seq ?_
      | refine Run.skip ?_
      | refine Run.block ?_
      | refine Run.blk ?_
      | refine Run.scope ?_
      | refine Run.scp ?_
      | (refine Run.exit rfl ?_)
      | (refine Run.reg mixed ?_; simp -implicitDefEqProofs only [e1, e2, e3, e4, e5, e6, e7, e8, e9, encs_len, decide_eq_false hn, List.length_map, g1, rs_r6_valid, Bool.not_eq_true', Bool.not_eq_false', go_sem, eq_self, Nat.reduceEqDiff, Nat.reduceBEq, Nat.reduceAdd, Nat.reduceLeDiff, reduceIte, reduceCtorEq, tysA, tyA, Ty.enc, Ty.encs])
      | (refine Run.condM ?_; simp -implicitDefEqProofs only [e1, e2, e3, e4, e5, e6, e7, e8, e9, encs_len, decide_eq_false hn, List.length_map, g1, rs_r6_valid, Bool.not_eq_true', Bool.not_eq_false', go_sem, eq_self, Nat.reduceEqDiff, Nat.reduceBEq, Nat.reduceAdd, Nat.reduceLeDiff, reduceIte, reduceCtorEq, tysA, tyA, Ty.enc, Ty.encs])
      | (refine Run.retP g_r6_valid (Heap.le_refl _) ?_; simp -implicitDefEqProofs only [rs_r6_valid, e1, e2, e3, e4, e5, e6, e7, e8, e9, encs_len, decide_eq_false hn, List.length_map, g1, go_sem, eq_self, Nat.reduceEqDiff, Nat.reduceBEq, Nat.reduceAdd, Nat.reduceLeDiff, reduceIte, reduceCtorEq, tysA, tyA, Ty.enc, Ty.encs])
      | (refine xo_gs rfl (fun h => ?_) (fun h => ?_) <;> first | (cases h; done) | simp -implicitDefEqProofs only [e1, e2, e3, e4, e5, e6, e7, e8, e9, encs_len, decide_eq_false hn, List.length_map, g1, rs_r6_valid, Bool.not_eq_true', Bool.not_eq_false', go_sem, eq_self, Nat.reduceEqDiff, Nat.reduceBEq, Nat.reduceAdd, Nat.reduceLeDiff, reduceIte, reduceCtorEq, tysA, tyA, Ty.enc, Ty.encs])
      | (refine ⟨fun h => ?_, fun h => ?_⟩ <;> first | (cases h; done) | (simp -implicitDefEqProofs only [h]; done) | (try simp -implicitDefEqProofs only [h]))
      | fail))
        have : data[p]? = none := List.getElem?_eq_none (by omega)
        exact hno (by simp [shapeOk, this])
      have g1 : decide ((data.length : Int) ≤ (p : Int)) = false := by simp; omega
      obtain ⟨d, hd⟩ := ex_at hp
      have hd' := dats_at hd
      by_cases q1 : (l.length : Int) = d.vars
      case neg =>
        (repeat' (first
      | refine Run.seq ?_
      | refine Run.skip ?_
      | refine Run.block ?_
      | refine Run.blk ?_
      | refine Run.scope ?_
      | refine Run.scp ?_
      | (refine Run.exit rfl ?_)
      | (refine Run.reg mixed ?_; simp -implicitDefEqProofs only [e1, e2, e3, e4, e5, e6, e7, e8, e9, encs_len, decide_eq_false hn, List.length_map, g1, hd', neB q1, rs_r6_valid, Bool.not_eq_true', Bool.not_eq_false', go_sem, eq_self, Nat.reduceEqDiff, Nat.reduceBEq, Nat.reduceAdd, Nat.reduceLeDiff, reduceIte, reduceCtorEq, tysA, tyA, Ty.enc, Ty.encs])
      | (refine Run.condM ?_; simp -implicitDefEqProofs only [e1, e2, e3, e4, e5, e6, e7, e8, e9, encs_len, decide_eq_false hn, List.length_map, g1, hd', neB q1, rs_r6_valid, Bool.not_eq_true', Bool.not_eq_false', go_sem, eq_self, Nat.reduceEqDiff, Nat.reduceBEq, Nat.reduceAdd, Nat.reduceLeDiff, reduceIte, reduceCtorEq, tysA, tyA, Ty.enc, Ty.encs])
      | (refine Run.retP g_r6_valid (Heap.le_refl _) ?_; simp -implicitDefEqProofs only [rs_r6_valid, e1, e2, e3, e4, e5, e6, e7, e8, e9, encs_len, decide_eq_false hn, List.length_map, g1, hd', neB q1, go_sem, eq_self, Nat.reduceEqDiff, Nat.reduceBEq, Nat.reduceAdd, Nat.reduceLeDiff, reduceIte, reduceCtorEq, tysA, tyA, Ty.enc, Ty.encs])
      | (refine xo_gs rfl (fun h => ?_) (fun h => ?_) <;> first | (cases h; done) | simp -implicitDefEqProofs only [e1, e2, e3, e4, e5, e6, e7, e8, e9, encs_len, decide_eq_false hn, List.length_map, g1, hd', neB q1, rs_r6_valid, Bool.not_eq_true', Bool.not_eq_false', go_sem, eq_self, Nat.reduceEqDiff, Nat.reduceBEq, Nat.reduceAdd, Nat.reduceLeDiff, reduceIte, reduceCtorEq, tysA, tyA, Ty.enc, Ty.encs])
      | (refine ⟨fun h => ?_, fun h => ?_⟩ <;> first | (cases h; done) | (simp -implicitDefEqProofs only [h]; done) | (try simp -implicitDefEqProofs only [h]))
      | fail))
        exact hno (by simp [shapeOk, hd, q1])
      have hshape : shapeOk data vars 5 (p : Int) l.length = true := by
        simp [shapeOk, hd, q1]
      (repeat' (first
      | refine Run.seq ?_
      | refine Run.skip ?_
      | refine Run.block ?_
      | refine Run.blk ?_
      | refine Run.scope ?_
      | refine Run.scp ?_
      | (refine Run.exit rfl ?_)
      | (refine Run.reg mixed ?_; simp -implicitDefEqProofs only [e1, e2, e3, e4, e5, e6, e7, e8, e9, encs_len, decide_eq_false hn, List.length_map, g1, hd', eqB q1, rs_r6_valid, Bool.not_eq_true', Bool.not_eq_false', go_sem, eq_self, Nat.reduceEqDiff, Nat.reduceBEq, Nat.reduceAdd, Nat.reduceLeDiff, reduceIte, reduceCtorEq, tysA, tyA, Ty.enc, Ty.encs])
      | (refine Run.condM ?_; simp -implicitDefEqProofs only [e1, e2, e3, e4, e5, e6, e7, e8, e9, encs_len, decide_eq_false hn, List.length_map, g1, hd', eqB q1, rs_r6_valid, Bool.not_eq_true', Bool.not_eq_false', go_sem, eq_self, Nat.reduceEqDiff, Nat.reduceBEq, Nat.reduceAdd, Nat.reduceLeDiff, reduceIte, reduceCtorEq, tysA, tyA, Ty.enc, Ty.encs])
      | (refine xo_gs rfl (fun h => ?_) (fun h => ?_) <;> first | (cases h; done) | simp -implicitDefEqProofs only [e1, e2, e3, e4, e5, e6, e7, e8, e9, encs_len, decide_eq_false hn, List.length_map, g1, hd', eqB q1, rs_r6_valid, Bool.not_eq_true', Bool.not_eq_false', go_sem, eq_self, Nat.reduceEqDiff, Nat.reduceBEq, Nat.reduceAdd, Nat.reduceLeDiff, reduceIte, reduceCtorEq, tysA, tyA, Ty.enc, Ty.encs])
      | (refine ⟨fun h => ?_, fun h => ?_⟩ <;> first | (cases h; done) | (simp -implicitDefEqProofs only [h]; done) | (try simp -implicitDefEqProofs only [h]))
      | fail))
      refine Run.loopA ?_
      exact hloop hshape _ rfl
    by_cases k6 : kd = 6
    · subst k6
      have e1 : ((6 : Int) == 1) = false := by decide
      have e2 : ((6 : Int) == 2) = false := by decide
      have e3 : ((6 : Int) == 3) = false := by decide
      have e4 : ((6 : Int) == 4) = false := by decide
      have e5 : ((6 : Int) == 5) = false := by decide
      have e6 : ((6 : Int) == 6) = true := by decide
      have e7 : ((6 : Int) == 7) = false := by decide
      have e8 : ((6 : Int) == 8) = false := by decide
      have e9 : ((6 : Int) == 9) = false := by decide
      by_cases hn : nm = 0
      case neg =>
        (repeat' (first
      | refine Run.seq ?_
      | refine Run.skip ?_
      | refine Run.block ?_
      | refine Run.blk ?_
      | refine Run.scope ?_
      | refine Run.scp ?_
      | (refine Run.exit rfl ?_)
      | (refine Run.reg mixed ?_; simp -implicitDefEqProofs only [e1, e2, e3, e4, e5, e6, e7, e8, e9, encs_len, neB hn, rs_r6_valid, Bool.not_eq_true', Bool.not_eq_false', go_sem, eq_self, Nat.reduceEqDiff, Nat.reduceBEq, Nat.reduceAdd, Nat.reduceLeDiff, reduceIte, reduceCtorEq, tysA, tyA, Ty.enc, Ty.encs])
      | (refine Run.condM ?_; simp -implicitDefEqProofs only [e1, e2, e3, e4, e5, e6, e7, e8, e9, encs_len, neB hn, rs_r6_valid, Bool.not_eq_true', Bool.not_eq_false', go_sem, eq_self, Nat.reduceEqDiff, Nat.reduceBEq, Nat.reduceAdd, Nat.reduceLeDiff, reduceIte, reduceCtorEq, tysA, tyA, Ty.enc, Ty.encs])
      | (refine Run.retP g_r6_valid (Heap.le_refl _) ?_; simp -implicitDefEqProofs only [rs_r6_valid, e1, e2, e3, e4, e5, e6, e7, e8, e9, encs_len, neB hn, go_sem, eq_self, Nat.reduceEqDiff, Nat.reduceBEq, Nat.reduceAdd, Nat.reduceLeDiff, reduceIte, reduceCtorEq, tysA, tyA, Ty.enc, Ty.encs])
      | (refine xo_gs rfl (fun h => ?_) (fun h => ?_) <;> first | (cases h; done) | simp -implicitDefEqProofs only [e1, e2, e3, e4, e5, e6, e7, e8, e9, encs_len, neB hn, rs_r6_valid, Bool.not_eq_true', Bool.not_eq_false', go_sem, eq_self, Nat.reduceEqDiff, Nat.reduceBEq, Nat.reduceAdd, Nat.reduceLeDiff, reduceIte, reduceCtorEq, tysA, tyA, Ty.enc, Ty.encs])
      | (refine ⟨fun h => ?_, fun h => ?_⟩ <;> first | (cases h; done) | (simp -implicitDefEqProofs only [h]; done) | (try simp -implicitDefEqProofs only [h]))
      | fail))
        exact hno (by simp [shapeOk, hn])
      by_cases q1 : (l.length : Int) < 2
      ·
        (repeat' (first
      | refine Run.seq ?_
      | refine Run.skip ?_
      | refine Run.block ?_
      | refine Run.blk ?_
      | refine Run.scope ?_
      | refine Run.scp ?_
      | (refine Run.exit rfl ?_)
      | (refine Run.reg mixed ?_; simp -implicitDefEqProofs only [e1, e2, e3, e4, e5, e6, e7, e8, e9, encs_len, eqB hn, lenF q1, rs_r6_valid, Bool.not_eq_true', Bool.not_eq_false', go_sem, eq_self, Nat.reduceEqDiff, Nat.reduceBEq, Nat.reduceAdd, Nat.reduceLeDiff, reduceIte, reduceCtorEq, tysA, tyA, Ty.enc, Ty.encs])
      | (refine Run.condM ?_; simp -implicitDefEqProofs only [e1, e2, e3, e4, e5, e6, e7, e8, e9, encs_len, eqB hn, lenF q1, rs_r6_valid, Bool.not_eq_true', Bool.not_eq_false', go_sem, eq_self, Nat.reduceEqDiff, Nat.reduceBEq, Nat.reduceAdd, Nat.reduceLeDiff, reduceIte, reduceCtorEq, tysA, tyA, Ty.enc, Ty.encs])
      | (refine Run.retP g_r6_valid (Heap.le_refl _) ?_; simp -implicitDefEqProofs only [rs_r6_valid, e1, e2, e3, e4, e5, e6, e7, e8, e9, encs_len, eqB hn, lenF q1, go_sem, eq_self, Nat.reduceEqDiff, Nat.reduceBEq, Nat.reduceAdd, Nat.reduceLeDiff, reduceIte, reduceCtorEq, tysA, tyA, Ty.enc, Ty.encs])
      | (refine xo_gs rfl (fun h => ?_) (fun h => ?_) <;> first | (cases h; done) | simp -implicitDefEqProofs only [e1, e2, e3, e4, e5, e6, e7, e8, e9, encs_len, eqB hn, lenF q1, rs_r6_valid, Bool.not_eq_true', Bool.not_eq_false', go_sem, eq_self, Nat.reduceEqDiff, Nat.reduceBEq, Nat.reduceAdd, Nat.reduceLeDiff, reduceIte, reduceCtorEq, tysA, tyA, Ty.enc, Ty.encs])
      | (refine ⟨fun h => ?_, fun h => ?_⟩ <;> first | (cases h; done) | (simp -implicitDefEqProofs only [h]; done) | (try simp -implicitDefEqProofs only [h]))
      | fail))
        have : ¬ (2 ≤ l.length) := by omega
        exact hno (by simp [shapeOk, this])
      by_cases q2 : 6 < (l.length : Int)
      ·
        (repeat' (first
      | refine Run.seq ?_
      | refine Run.skip ?_
      | refine Run.block ?_
      | refine Run.blk ?_
      | refine Run.scope ?_
      | refine Run.scp ?_
      | (refine Run.exit rfl ?_)
      | (refine Run.reg mixed ?_; simp -implicitDefEqProofs only [e1, e2, e3, e4, e5, e6, e7, e8, e9, encs_len, eqB hn, lenG q1, gtF q2, rs_r6_valid, Bool.not_eq_true', Bool.not_eq_false', go_sem, eq_self, Nat.reduceEqDiff, Nat.reduceBEq, Nat.reduceAdd, Nat.reduceLeDiff, reduceIte, reduceCtorEq, tysA, tyA, Ty.enc, Ty.encs])
      | (refine Run.condM ?_; simp -implicitDefEqProofs only [e1, e2, e3, e4, e5, e6, e7, e8, e9, encs_len, eqB hn, lenG q1, gtF q2, rs_r6_valid, Bool.not_eq_true', Bool.not_eq_false', go_sem, eq_self, Nat.reduceEqDiff, Nat.reduceBEq, Nat.reduceAdd, Nat.reduceLeDiff, reduceIte, reduceCtorEq, tysA, tyA, Ty.enc, Ty.encs])
      | (refine Run.retP g_r6_valid (Heap.le_refl _) ?_; simp -implicitDefEqProofs only [rs_r6_valid, e1, e2, e3, e4, e5, e6, e7, e8, e9, encs_len, eqB hn, lenG q1, gtF q2, go_sem, eq_self, Nat.reduceEqDiff, Nat.reduceBEq, Nat.reduceAdd, Nat.reduceLeDiff, reduceIte, reduceCtorEq, tysA, tyA, Ty.enc, Ty.encs])
      | (refine xo_gs rfl (fun h => ?_) (fun h => ?_) <;> first | (cases h; done) | simp -implicitDefEqProofs only [e1, e2, e3, e4, e5, e6, e7, e8, e9, encs_len, eqB hn, lenG q1, gtF q2, rs_r6_valid, Bool.not_eq_true', Bool.not_eq_false', go_sem, eq_self, Nat.reduceEqDiff, Nat.reduceBEq, Nat.reduceAdd, Nat.reduceLeDiff, reduceIte, reduceCtorEq, tysA, tyA, Ty.enc, Ty.encs])
      | (refine ⟨fun h => ?_, fun h => ?_⟩ <;> first | (cases h; done) | (simp -implicitDefEqProofs only [h]; done) | (try simp -implicitDefEqProofs only [h]))
      | fail))
        have : ¬ (l.length ≤ 6) := by omega
        exact hno (by simp [shapeOk, this])
      have hshape : shapeOk data vars 6 nm l.length = true := by
        have a1 : 2 ≤ l.length := by omega
        have a2 : l.length ≤ 6 := by omega
        simp [shapeOk, hn, a1, a2]
      (repeat' (first
      | refine Run.seq ?_
      | refine Run.skip ?_
      | refine Run.block ?_
      | refine Run.blk ?_
      | refine Run.scope ?_
      | refine Run.scp ?_
      | (refine Run.exit rfl ?_)
      | (refine Run.reg mixed ?_; simp -implicitDefEqProofs only [e1, e2, e3, e4, e5, e6, e7, e8, e9, encs_len, eqB hn, lenG q1, gtG q2, rs_r6_valid, Bool.not_eq_true', Bool.not_eq_false', go_sem, eq_self, Nat.reduceEqDiff, Nat.reduceBEq, Nat.reduceAdd, Nat.reduceLeDiff, reduceIte, reduceCtorEq, tysA, tyA, Ty.enc, Ty.encs])
      | (refine Run.condM ?_; simp -implicitDefEqProofs only [e1, e2, e3, e4, e5, e6, e7, e8, e9, encs_len, eqB hn, lenG q1, gtG q2, rs_r6_valid, Bool.not_eq_true', Bool.not_eq_false', go_sem, eq_self, Nat.reduceEqDiff, Nat.reduceBEq, Nat.reduceAdd, Nat.reduceLeDiff, reduceIte, reduceCtorEq, tysA, tyA, Ty.enc, Ty.encs])
      | (refine xo_gs rfl (fun h => ?_) (fun h => ?_) <;> first | (cases h; done) | simp -implicitDefEqProofs only [e1, e2, e3, e4, e5, e6, e7, e8, e9, encs_len, eqB hn, lenG q1, gtG q2, rs_r6_valid, Bool.not_eq_true', Bool.not_eq_false', go_sem, eq_self, Nat.reduceEqDiff, Nat.reduceBEq, Nat.reduceAdd, Nat.reduceLeDiff, reduceIte, reduceCtorEq, tysA, tyA, Ty.enc, Ty.encs])
      | (refine ⟨fun h => ?_, fun h => ?_⟩ <;> first | (cases h; done) | (simp -implicitDefEqProofs only [h]; done) | (try simp -implicitDefEqProofs only [h]))
      | fail))
      refine Run.loopA ?_
      exact hloop hshape _ rfl
    by_cases k7 : kd = 7
    · subst k7
      have e1 : ((7 : Int) == 1) = false := by decide
      have e2 : ((7 : Int) == 2) = false := by decide
      have e3 : ((7 : Int) == 3) = false := by decide
      have e4 : ((7 : Int) == 4) = false := by decide
      have e5 : ((7 : Int) == 5) = false := by decide
      have e6 : ((7 : Int) == 6) = false := by decide
      have e7 : ((7 : Int) == 7) = true := by decide
      have e8 : ((7 : Int) == 8) = false := by decide
      have e9 : ((7 : Int) == 9) = false := by decide
      by_cases hn : nm = 0
      case neg =>
        (repeat' (first
      | refine Run.seq ?_
      | refine Run.skip ?_
      | refine Run.block ?_
      | refine Run.blk ?_
      | refine Run.scope ?_
      | refine Run.scp ?_
      | (refine Run.exit rfl ?_)
      | (refine Run.reg mixed ?_; simp -implicitDefEqProofs only [e1, e2, e3, e4, e5, e6, e7, e8, e9, encs_len, neB hn, rs_r6_valid, Bool.not_eq_true', Bool.not_eq_false', go_sem, eq_self, Nat.reduceEqDiff, Nat.reduceBEq, Nat.reduceAdd, Nat.reduceLeDiff, reduceIte, reduceCtorEq, tysA, tyA, Ty.enc, Ty.encs])
      | (refine Run.condM ?_; simp -implicitDefEqProofs only [e1, e2, e3, e4, e5, e6, e7, e8, e9, encs_len, neB hn, rs_r6_valid, Bool.not_eq_true', Bool.not_eq_false', go_sem, eq_self, Nat.reduceEqDiff, Nat.reduceBEq, Nat.reduceAdd, Nat.reduceLeDiff, reduceIte, reduceCtorEq, tysA, tyA, Ty.enc, Ty.encs])
      | (refine Run.retP g_r6_valid (Heap.le_refl _) ?_; simp -implicitDefEqProofs only [rs_r6_valid, e1, e2, e3, e4, e5, e6, e7, e8, e9, encs_len, neB hn, go_sem, eq_self, Nat.reduceEqDiff, Nat.reduceBEq, Nat.reduceAdd, Nat.reduceLeDiff, reduceIte, reduceCtorEq, tysA, tyA, Ty.enc, Ty.encs])
      | (refine xo_gs rfl (fun h => ?_) (fun h => ?_) <;> first | (cases h; done) | simp -implicitDefEqProofs only [e1, e2, e3, e4, e5, e6, e7, e8, e9, encs_len, neB hn, rs_r6_valid, Bool.not_eq_true', Bool.not_eq_false', go_sem, eq_self, Nat.reduceEqDiff, Nat.reduceBEq, Nat.reduceAdd, Nat.reduceLeDiff, reduceIte, reduceCtorEq, tysA, tyA, Ty.enc, Ty.encs])
      | (refine ⟨fun h => ?_, fun h => ?_⟩ <;> first | (cases h; done) | (simp -implicitDefEqProofs only [h]; done) | (try simp -implicitDefEqProofs only [h]))
      | fail))
        exact hno (by simp [shapeOk, hn])
      by_cases q1 : (l.length : Int) = 1
      case neg =>
        (repeat' (first
      | refine Run.seq ?_
      | refine Run.skip ?_
      | refine Run.block ?_
      | refine Run.blk ?_
      | refine Run.scope ?_
      | refine Run.scp ?_
      | (refine Run.exit rfl ?_)
      | (refine Run.reg mixed ?_; simp -implicitDefEqProofs only [e1, e2, e3, e4, e5, e6, e7, e8, e9, encs_len, eqB hn, neB q1, rs_r6_valid, Bool.not_eq_true', Bool.not_eq_false', go_sem, eq_self, Nat.reduceEqDiff, Nat.reduceBEq, Nat.reduceAdd, Nat.reduceLeDiff, reduceIte, reduceCtorEq, tysA, tyA, Ty.enc, Ty.encs])
      | (refine Run.condM ?_; simp -implicitDefEqProofs only [e1, e2, e3, e4, e5, e6, e7, e8, e9, encs_len, eqB hn, neB q1, rs_r6_valid, Bool.not_eq_true', Bool.not_eq_false', go_sem, eq_self, Nat.reduceEqDiff, Nat.reduceBEq, Nat.reduceAdd, Nat.reduceLeDiff, reduceIte, reduceCtorEq, tysA, tyA, Ty.enc, Ty.encs])
      | (refine Run.retP g_r6_valid (Heap.le_refl _) ?_; simp -implicitDefEqProofs only [rs_r6_valid, e1, e2, e3, e4, e5, e6, e7, e8, e9, encs_len, eqB hn, neB q1, go_sem, eq_self, Nat.reduceEqDiff, Nat.reduceBEq, Nat.reduceAdd, Nat.reduceLeDiff, reduceIte, reduceCtorEq, tysA, tyA, Ty.enc, Ty.encs])
      | (refine xo_gs rfl (fun h => ?_) (fun h => ?_) <;> first | (cases h; done) | simp -implicitDefEqProofs only [e1, e2, e3, e4, e5, e6, e7, e8, e9, encs_len, eqB hn, neB q1, rs_r6_valid, Bool.not_eq_true', Bool.not_eq_false', go_sem, eq_self, Nat.reduceEqDiff, Nat.reduceBEq, Nat.reduceAdd, Nat.reduceLeDiff, reduceIte, reduceCtorEq, tysA, tyA, Ty.enc, Ty.encs])
      | (refine ⟨fun h => ?_, fun h => ?_⟩ <;> first | (cases h; done) | (simp -implicitDefEqProofs only [h]; done) | (try simp -implicitDefEqProofs only [h]))
      | fail))
        have : ¬ (l.length = 1) := by omega
        exact hno (by simp [shapeOk, this])
      have hshape : shapeOk data vars 7 nm l.length = true := by
        have : l.length = 1 := by omega
        simp [shapeOk, hn, this]
      (repeat' (first
      | refine Run.seq ?_
      | refine Run.skip ?_
      | refine Run.block ?_
      | refine Run.blk ?_
      | refine Run.scope ?_
      | refine Run.scp ?_
      | (refine Run.exit rfl ?_)
      | (refine Run.reg mixed ?_; simp -implicitDefEqProofs only [e1, e2, e3, e4, e5, e6, e7, e8, e9, encs_len, eqB hn, eqB q1, rs_r6_valid, Bool.not_eq_true', Bool.not_eq_false', go_sem, eq_self, Nat.reduceEqDiff, Nat.reduceBEq, Nat.reduceAdd, Nat.reduceLeDiff, reduceIte, reduceCtorEq, tysA, tyA, Ty.enc, Ty.encs])
      | (refine Run.condM ?_; simp -implicitDefEqProofs only [e1, e2, e3, e4, e5, e6, e7, e8, e9, encs_len, eqB hn, eqB q1, rs_r6_valid, Bool.not_eq_true', Bool.not_eq_false', go_sem, eq_self, Nat.reduceEqDiff, Nat.reduceBEq, Nat.reduceAdd, Nat.reduceLeDiff, reduceIte, reduceCtorEq, tysA, tyA, Ty.enc, Ty.encs])
      | (refine xo_gs rfl (fun h => ?_) (fun h => ?_) <;> first | (cases h; done) | simp -implicitDefEqProofs only [e1, e2, e3, e4, e5, e6, e7, e8, e9, encs_len, eqB hn, eqB q1, rs_r6_valid, Bool.not_eq_true', Bool.not_eq_false', go_sem, eq_self, Nat.reduceEqDiff, Nat.reduceBEq, Nat.reduceAdd, Nat.reduceLeDiff, reduceIte, reduceCtorEq, tysA, tyA, Ty.enc, Ty.encs])
      | (refine ⟨fun h => ?_, fun h => ?_⟩ <;> first | (cases h; done) | (simp -implicitDefEqProofs only [h]; done) | (try simp -implicitDefEqProofs only [h]))
      | fail))
      refine Run.loopA ?_
      exact hloop hshape _ rfl
    by_cases k8 : kd = 8
    · subst k8
      have e1 : ((8 : Int) == 1) = false := by decide
      have e2 : ((8 : Int) == 2) = false := by decide
      have e3 : ((8 : Int) == 3) = false := by decide
      have e4 : ((8 : Int) == 4) = false := by decide
      have e5 : ((8 : Int) == 5) = false := by decide
      have e6 : ((8 : Int) == 6) = false := by decide
      have e7 : ((8 : Int) == 7) = false := by decide
      have e8 : ((8 : Int) == 8) = true := by decide
      have e9 : ((8 : Int) == 9) = false := by decide
      by_cases hn : nm = 0
      case neg =>
        (repeat' (first
      | refine Run.seq ?_
      | refine Run.skip ?_
      | refine Run.block ?_
      | refine Run.blk ?_
      | refine Run.scope ?_
      | refine Run.scp ?_
      | (refine Run.exit rfl ?_)
      | (refine Run.reg mixed ?_; simp -implicitDefEqProofs only [e1, e2, e3, e4, e5, e6, e7, e8, e9, encs_len, neB hn, rs_r6_valid, Bool.not_eq_true', Bool.not_eq_false', go_sem, eq_self, Nat.reduceEqDiff, Nat.reduceBEq, Nat.reduceAdd, Nat.reduceLeDiff, reduceIte, reduceCtorEq, tysA, tyA, Ty.enc, Ty.encs])
      | (refine Run.condM ?_; simp -implicitDefEqProofs only [e1, e2, e3, e4, e5, e6, e7, e8, e9, encs_len, neB hn, rs_r6_valid, Bool.not_eq_true', Bool.not_eq_false', go_sem, eq_self, Nat.reduceEqDiff, Nat.reduceBEq, Nat.reduceAdd, Nat.reduceLeDiff, reduceIte, reduceCtorEq, tysA, tyA, Ty.enc, Ty.encs])
      | (refine Run.retP g_r6_valid (Heap.le_refl _) ?_; simp -implicitDefEqProofs only [rs_r6_valid, e1, e2, e3, e4, e5, e6, e7, e8, e9, encs_len, neB hn, go_sem, eq_self, Nat.reduceEqDiff, Nat.reduceBEq, Nat.reduceAdd, Nat.reduceLeDiff, reduceIte, reduceCtorEq, tysA, tyA, Ty.enc, Ty.encs])
      | (refine xo_gs rfl (fun h => ?_) (fun h => ?_) <;> first | (cases h; done) | simp -implicitDefEqProofs only [e1, e2, e3, e4, e5, e6, e7, e8, e9, encs_len, neB hn, rs_r6_valid, Bool.not_eq_true', Bool.not_eq_false', go_sem, eq_self, Nat.reduceEqDiff, Nat.reduceBEq, Nat.reduceAdd, Nat.reduceLeDiff, reduceIte, reduceCtorEq, tysA, tyA, Ty.enc, Ty.encs])
      | (refine ⟨fun h => ?_, fun h => ?_⟩ <;> first | (cases h; done) | (simp -implicitDefEqProofs only [h]; done) | (try simp -implicitDefEqProofs only [h]))
      | fail))
        exact hno (by simp [shapeOk, hn])
      by_cases q1 : (l.length : Int) = 1
      case neg =>
        (repeat' (first
      | refine Run.seq ?_
      | refine Run.skip ?_
      | refine Run.block ?_
      | refine Run.blk ?_
      | refine Run.scope ?_
      | refine Run.scp ?_
      | (refine Run.exit rfl ?_)
      | (refine Run.reg mixed ?_; simp -implicitDefEqProofs only [e1, e2, e3, e4, e5, e6, e7, e8, e9, encs_len, eqB hn, neB q1, rs_r6_valid, Bool.not_eq_true', Bool.not_eq_false', go_sem, eq_self, Nat.reduceEqDiff, Nat.reduceBEq, Nat.reduceAdd, Nat.reduceLeDiff, reduceIte, reduceCtorEq, tysA, tyA, Ty.enc, Ty.encs])
      | (refine Run.condM ?_; simp -implicitDefEqProofs only [e1, e2, e3, e4, e5, e6, e7, e8, e9, encs_len, eqB hn, neB q1, rs_r6_valid, Bool.not_eq_true', Bool.not_eq_false', go_sem, eq_self, Nat.reduceEqDiff, Nat.reduceBEq, Nat.reduceAdd, Nat.reduceLeDiff, reduceIte, reduceCtorEq, tysA, tyA, Ty.enc, Ty.encs])
      | (refine Run.retP g_r6_valid (Heap.le_refl _) ?_; simp -implicitDefEqProofs only [rs_r6_valid, e1, e2, e3, e4, e5, e6, e7, e8, e9, encs_len, eqB hn, neB q1, go_sem, eq_self, Nat.reduceEqDiff, Nat.reduceBEq, Nat.reduceAdd, Nat.reduceLeDiff, reduceIte, reduceCtorEq, tysA, tyA, Ty.enc, Ty.encs])
      | (refine xo_gs rfl (fun h => ?_) (fun h => ?_) <;> first | (cases h; done) | simp -implicitDefEqProofs only [e1, e2, e3, e4, e5, e6, e7, e8, e9, encs_len, eqB hn, neB q1, rs_r6_valid, Bool.not_eq_true', Bool.not_eq_false', go_sem, eq_self, Nat.reduceEqDiff, Nat.reduceBEq, Nat.reduceAdd, Nat.reduceLeDiff, reduceIte, reduceCtorEq, tysA, tyA, Ty.enc, Ty.encs])
      | (refine ⟨fun h => ?_, fun h => ?_⟩ <;> first | (cases h; done) | (simp -implicitDefEqProofs only [h]; done) | (try simp -implicitDefEqProofs only [h]))
      | fail))
        have : ¬ (l.length = 1) := by omega
        exact hno (by simp [shapeOk, this])
      have hshape : shapeOk data vars 8 nm l.length = true := by
        have : l.length = 1 := by omega
        simp [shapeOk, hn, this]
      (repeat' (first
      | refine Run.seq ?_
      | refine Run.skip ?_
      | refine Run.block ?_
      | refine Run.blk ?_
      | refine Run.scope ?_
      | refine Run.scp ?_
      | (refine Run.exit rfl ?_)
      | (refine Run.reg mixed ?_; simp -implicitDefEqProofs only [e1, e2, e3, e4, e5, e6, e7, e8, e9, encs_len, eqB hn, eqB q1, rs_r6_valid, Bool.not_eq_true', Bool.not_eq_false', go_sem, eq_self, Nat.reduceEqDiff, Nat.reduceBEq, Nat.reduceAdd, Nat.reduceLeDiff, reduceIte, reduceCtorEq, tysA, tyA, Ty.enc, Ty.encs])
      | (refine Run.condM ?_; simp -implicitDefEqProofs only [e1, e2, e3, e4, e5, e6, e7, e8, e9, encs_len, eqB hn, eqB q1, rs_r6_valid, Bool.not_eq_true', Bool.not_eq_false', go_sem, eq_self, Nat.reduceEqDiff, Nat.reduceBEq, Nat.reduceAdd, Nat.reduceLeDiff, reduceIte, reduceCtorEq, tysA, tyA, Ty.enc, Ty.encs])
      | (refine xo_gs rfl (fun h => ?_) (fun h => ?_) <;> first | (cases h; done) | simp -implicitDefEqProofs only [e1, e2, e3, e4, e5, e6, e7, e8, e9, encs_len, eqB hn, eqB q1, rs_r6_valid, Bool.not_eq_true', Bool.not_eq_false', go_sem, eq_self, Nat.reduceEqDiff, Nat.reduceBEq, Nat.reduceAdd, Nat.reduceLeDiff, reduceIte, reduceCtorEq, tysA, tyA, Ty.enc, Ty.encs])
      | (refine ⟨fun h => ?_, fun h => ?_⟩ <;> first | (cases h; done) | (simp -implicitDefEqProofs only [h]; done) | (try simp -implicitDefEqProofs only [h]))
      | fail))
      refine Run.loopA ?_
      exact hloop hshape _ rfl
    by_cases k9 : kd = 9
    · subst k9
      have e1 : ((9 : Int) == 1) = false := by decide
      have e2 : ((9 : Int) == 2) = false := by decide
      have e3 : ((9 : Int) == 3) = false := by decide
      have e4 : ((9 : Int) == 4) = false := by decide
      have e5 : ((9 : Int) == 5) = false := by decide
      have e6 : ((9 : Int) == 6) = false := by decide
      have e7 : ((9 : Int) == 7) = false := by decide
      have e8 : ((9 : Int) == 8) = false := by decide
      have e9 : ((9 : Int) == 9) = true := by decide
      by_cases hn : nm = 0
      case neg =>
        (repeat' (first
      | refine Run.seq ?_
      | refine Run.skip ?_
      | refine Run.block ?_
      | refine Run.blk ?_
      | refine Run.scope ?_
      | refine Run.scp ?_
      | (refine Run.exit rfl ?_)
      | (refine Run.reg mixed ?_; simp -implicitDefEqProofs only [e1, e2, e3, e4, e5, e6, e7, e8, e9, encs_len, neB hn, rs_r6_valid, Bool.not_eq_true', Bool.not_eq_false', go_sem, eq_self, Nat.reduceEqDiff, Nat.reduceBEq, Nat.reduceAdd, Nat.reduceLeDiff, reduceIte, reduceCtorEq, tysA, tyA, Ty.enc, Ty.encs])
      | (refine Run.condM ?_; simp -implicitDefEqProofs only [e1, e2, e3, e4, e5, e6, e7, e8, e9, encs_len, neB hn, rs_r6_valid, Bool.not_eq_true', Bool.not_eq_false', go_sem, eq_self, Nat.reduceEqDiff, Nat.reduceBEq, Nat.reduceAdd, Nat.reduceLeDiff, reduceIte, reduceCtorEq, tysA, tyA, Ty.enc, Ty.encs])
      | (refine Run.retP g_r6_valid (Heap.le_refl _) ?_; simp -implicitDefEqProofs only [rs_r6_valid, e1, e2, e3, e4, e5, e6, e7, e8, e9, encs_len, neB hn, go_sem, eq_self, Nat.reduceEqDiff, Nat.reduceBEq, Nat.reduceAdd, Nat.reduceLeDiff, reduceIte, reduceCtorEq, tysA, tyA, Ty.enc, Ty.encs])
      | (refine xo_gs rfl (fun h => ?_) (fun h => ?_) <;> first | (cases h; done) | simp -implicitDefEqProofs only [e1, e2, e3, e4, e5, e6, e7, e8, e9, encs_len, neB hn, rs_r6_valid, Bool.not_eq_true', Bool.not_eq_false', go_sem, eq_self, Nat.reduceEqDiff, Nat.reduceBEq, Nat.reduceAdd, Nat.reduceLeDiff, reduceIte, reduceCtorEq, tysA, tyA, Ty.enc, Ty.encs])
      | (refine ⟨fun h => ?_, fun h => ?_⟩ <;> first | (cases h; done) | (simp -implicitDefEqProofs only [h]; done) | (try simp -implicitDefEqProofs only [h]))
      | fail))
        exact hno (by simp [shapeOk, hn])
      by_cases q1 : (l.length : Int) < 1
      ·
        (repeat' (first
      | refine Run.seq ?_
      | refine Run.skip ?_
      | refine Run.block ?_
      | refine Run.blk ?_
      | refine Run.scope ?_
      | refine Run.scp ?_
      | (refine Run.exit rfl ?_)
      | (refine Run.reg mixed ?_; simp -implicitDefEqProofs only [e1, e2, e3, e4, e5, e6, e7, e8, e9, encs_len, eqB hn, lenF q1, rs_r6_valid, Bool.not_eq_true', Bool.not_eq_false', go_sem, eq_self, Nat.reduceEqDiff, Nat.reduceBEq, Nat.reduceAdd, Nat.reduceLeDiff, reduceIte, reduceCtorEq, tysA, tyA, Ty.enc, Ty.encs])
      | (refine Run.condM ?_; simp -implicitDefEqProofs only [e1, e2, e3, e4, e5, e6, e7, e8, e9, encs_len, eqB hn, lenF q1, rs_r6_valid, Bool.not_eq_true', Bool.not_eq_false', go_sem, eq_self, Nat.reduceEqDiff, Nat.reduceBEq, Nat.reduceAdd, Nat.reduceLeDiff, reduceIte, reduceCtorEq, tysA, tyA, Ty.enc, Ty.encs])
      | (refine Run.retP g_r6_valid (Heap.le_refl _) ?_; simp -implicitDefEqProofs only [rs_r6_valid, e1, e2, e3, e4, e5, e6, e7, e8, e9, encs_len, eqB hn, lenF q1, go_sem, eq_self, Nat.reduceEqDiff, Nat.reduceBEq, Nat.reduceAdd, Nat.reduceLeDiff, reduceIte, reduceCtorEq, tysA, tyA, Ty.enc, Ty.encs])
      | (refine xo_gs rfl (fun h => ?_) (fun h => ?_) <;> first | (cases h; done) | simp -implicitDefEqProofs only [e1, e2, e3, e4, e5, e6, e7, e8, e9, encs_len, eqB hn, lenF q1, rs_r6_valid, Bool.not_eq_true', Bool.not_eq_false', go_sem, eq_self, Nat.reduceEqDiff, Nat.reduceBEq, Nat.reduceAdd, Nat.reduceLeDiff, reduceIte, reduceCtorEq, tysA, tyA, Ty.enc, Ty.encs])
      | (refine ⟨fun h => ?_, fun h => ?_⟩ <;> first | (cases h; done) | (simp -implicitDefEqProofs only [h]; done) | (try simp -implicitDefEqProofs only [h]))
      | fail))
        have : ¬ (1 ≤ l.length) := by omega
        exact hno (by simp [shapeOk, this])
      by_cases q2 : 7 < (l.length : Int)
      ·
        (repeat' (first
      | refine Run.seq ?_
      | refine Run.skip ?_
      | refine Run.block ?_
      | refine Run.blk ?_
      | refine Run.scope ?_
      | refine Run.scp ?_
      | (refine Run.exit rfl ?_)
      | (refine Run.reg mixed ?_; simp -implicitDefEqProofs only [e1, e2, e3, e4, e5, e6, e7, e8, e9, encs_len, eqB hn, lenG q1, gtF q2, rs_r6_valid, Bool.not_eq_true', Bool.not_eq_false', go_sem, eq_self, Nat.reduceEqDiff, Nat.reduceBEq, Nat.reduceAdd, Nat.reduceLeDiff, reduceIte, reduceCtorEq, tysA, tyA, Ty.enc, Ty.encs])
      | (refine Run.condM ?_; simp -implicitDefEqProofs only [e1, e2, e3, e4, e5, e6, e7, e8, e9, encs_len, eqB hn, lenG q1, gtF q2, rs_r6_valid, Bool.not_eq_true', Bool.not_eq_false', go_sem, eq_self, Nat.reduceEqDiff, Nat.reduceBEq, Nat.reduceAdd, Nat.reduceLeDiff, reduceIte, reduceCtorEq, tysA, tyA, Ty.enc, Ty.encs])
      | (refine Run.retP g_r6_valid (Heap.le_refl _) ?_; simp -implicitDefEqProofs only [rs_r6_valid, e1, e2, e3, e4, e5, e6, e7, e8, e9, encs_len, eqB hn, lenG q1, gtF q2, go_sem, eq_self, Nat.reduceEqDiff, Nat.reduceBEq, Nat.reduceAdd, Nat.reduceLeDiff, reduceIte, reduceCtorEq, tysA, tyA, Ty.enc, Ty.encs])
      | (refine xo_gs rfl (fun h => ?_) (fun h => ?_) <;> first | (cases h; done) | simp -implicitDefEqProofs only [e1, e2, e3, e4, e5, e6, e7, e8, e9, encs_len, eqB hn, lenG q1, gtF q2, rs_r6_valid, Bool.not_eq_true', Bool.not_eq_false', go_sem, eq_self, Nat.reduceEqDiff, Nat.reduceBEq, Nat.reduceAdd, Nat.reduceLeDiff, reduceIte, reduceCtorEq, tysA, tyA, Ty.enc, Ty.encs])
      | (refine ⟨fun h => ?_, fun h => ?_⟩ <;> first | (cases h; done) | (simp -implicitDefEqProofs only [h]; done) | (try simp -implicitDefEqProofs only [h]))
      | fail))
        have : ¬ (l.length ≤ 7) := by omega
        exact hno (by simp [shapeOk, this])
      have hshape : shapeOk data vars 9 nm l.length = true := by
        have a1 : 1 ≤ l.length := by omega
        have a2 : l.length ≤ 7 := by omega
        simp [shapeOk, hn, a1, a2]
      (repeat' (first
      | refine Run.seq ?_
      | refine Run.skip ?_
      | refine Run.block ?_
      | refine Run.blk ?_
      | refine Run.scope ?_
      | refine Run.scp ?_
      | (refine Run.exit rfl ?_)
      | (refine Run.reg mixed ?_; simp -implicitDefEqProofs only [e1, e2, e3, e4, e5, e6, e7, e8, e9, encs_len, eqB hn, lenG q1, gtG q2, rs_r6_valid, Bool.not_eq_true', Bool.not_eq_false', go_sem, eq_self, Nat.reduceEqDiff, Nat.reduceBEq, Nat.reduceAdd, Nat.reduceLeDiff, reduceIte, reduceCtorEq, tysA, tyA, Ty.enc, Ty.encs])
      | (refine Run.condM ?_; simp -implicitDefEqProofs only [e1, e2, e3, e4, e5, e6, e7, e8, e9, encs_len, eqB hn, lenG q1, gtG q2, rs_r6_valid, Bool.not_eq_true', Bool.not_eq_false', go_sem, eq_self, Nat.reduceEqDiff, Nat.reduceBEq, Nat.reduceAdd, Nat.reduceLeDiff, reduceIte, reduceCtorEq, tysA, tyA, Ty.enc, Ty.encs])
      | (refine xo_gs rfl (fun h => ?_) (fun h => ?_) <;> first | (cases h; done) | simp -implicitDefEqProofs only [e1, e2, e3, e4, e5, e6, e7, e8, e9, encs_len, eqB hn, lenG q1, gtG q2, rs_r6_valid, Bool.not_eq_true', Bool.not_eq_false', go_sem, eq_self, Nat.reduceEqDiff, Nat.reduceBEq, Nat.reduceAdd, Nat.reduceLeDiff, reduceIte, reduceCtorEq, tysA, tyA, Ty.enc, Ty.encs])
      | (refine ⟨fun h => ?_, fun h => ?_⟩ <;> first | (cases h; done) | (simp -implicitDefEqProofs only [h]; done) | (try simp -implicitDefEqProofs only [h]))
      | fail))
      refine Run.loopA ?_
      exact hloop hshape _ rfl
    have e1 := beqF k1
    have e2 := beqF k2
    have e3 := beqF k3
    have e4 := beqF k4
    have e5 := beqF k5
    have e6 := beqF k6
    have e7 := beqF k7
    have e8 := beqF k8
    have e9 := beqF k9
    (repeat' (first
      | refine Run.seq ?_
      | refine Run.skip ?_
      | refine Run.block ?_
      | refine Run.blk ?_
      | refine Run.scope ?_
      | refine Run.scp ?_
      | (refine Run.exit rfl ?_)
      | (refine Run.reg mixed ?_; simp -implicitDefEqProofs only [e1, e2, e3, e4, e5, e6, e7, e8, e9, encs_len, rs_r6_valid, Bool.not_eq_true', Bool.not_eq_false', go_sem, eq_self, Nat.reduceEqDiff, Nat.reduceBEq, Nat.reduceAdd, Nat.reduceLeDiff, reduceIte, reduceCtorEq, tysA, tyA, Ty.enc, Ty.encs])
      | (refine Run.condM ?_; simp -implicitDefEqProofs only [e1, e2, e3, e4, e5, e6, e7, e8, e9, encs_len, rs_r6_valid, Bool.not_eq_true', Bool.not_eq_false', go_sem, eq_self, Nat.reduceEqDiff, Nat.reduceBEq, Nat.reduceAdd, Nat.reduceLeDiff, reduceIte, reduceCtorEq, tysA, tyA, Ty.enc, Ty.encs])
      | (refine Run.retP g_r6_valid (Heap.le_refl _) ?_; simp -implicitDefEqProofs only [rs_r6_valid, e1, e2, e3, e4, e5, e6, e7, e8, e9, encs_len, go_sem, eq_self, Nat.reduceEqDiff, Nat.reduceBEq, Nat.reduceAdd, Nat.reduceLeDiff, reduceIte, reduceCtorEq, tysA, tyA, Ty.enc, Ty.encs])
      | (refine xo_gs rfl (fun h => ?_) (fun h => ?_) <;> first | (cases h; done) | simp -implicitDefEqProofs only [e1, e2, e3, e4, e5, e6, e7, e8, e9, encs_len, rs_r6_valid, Bool.not_eq_true', Bool.not_eq_false', go_sem, eq_self, Nat.reduceEqDiff, Nat.reduceBEq, Nat.reduceAdd, Nat.reduceLeDiff, reduceIte, reduceCtorEq, tysA, tyA, Ty.enc, Ty.encs])
      | (refine ⟨fun h => ?_, fun h => ?_⟩ <;> first | (cases h; done) | (simp -implicitDefEqProofs only [h]; done) | (try simp -implicitDefEqProofs only [h]))
      | fail))
    exact hno (by simp [shapeOk, k1, k2, k3, k4, k5, k6, k7, k8, k9])

theorem le200 (n : Nat) : decide ((n : Int) ≤ 200) = decide (n ≤ 200) := decide_eq_decide.2 (by omega)
theorem r6_Valid_ok (data : List Dat) (t : Ty) (vars : Int) (σ : Heap) (ht : t.size ≤ 1000) : ACalls Tryd.prog 14 [dsA data, tyA t, .d (.int .i64 vars)] σ (fun v σ' => v = .d (.bool (decide (t.size ≤ 200) && validT data vars t)) ∧ σ' = σ) := by
  obtain ⟨kd, nm, l⟩ := t
  refine i_r6_Valid (by simp) ?_
  rw [argF_3]
  have hS := r6_Size_ok 1000 (.mk kd nm l) σ ht (by omega)
  have hv := r6_valid_ok data vars 1000 (.mk kd nm l) σ ht (by omega)
  cases h2 : decide ((Ty.mk kd nm l).size ≤ 200) with
  | true => (repeat' (first
      | refine Run.seq ?_
      | refine Run.skip ?_
      | refine Run.block ?_
      | refine Run.blk ?_
      | refine Run.scope ?_
      | refine Run.scp ?_
      | (refine Run.exit rfl ?_)
      | (refine Run.reg mixed ?_; simp -implicitDefEqProofs only [le200, h2, rs_r6_Valid, Bool.not_eq_true', Bool.not_eq_false', go_sem, eq_self, Nat.reduceEqDiff, Nat.reduceBEq, Nat.reduceAdd, Nat.reduceLeDiff, reduceIte, reduceCtorEq, tysA, tyA, Ty.enc, Ty.encs])
      | (refine Run.condM ?_; simp -implicitDefEqProofs only [le200, h2, rs_r6_Valid, Bool.not_eq_true', Bool.not_eq_false', go_sem, eq_self, Nat.reduceEqDiff, Nat.reduceBEq, Nat.reduceAdd, Nat.reduceLeDiff, reduceIte, reduceCtorEq, tysA, tyA, Ty.enc, Ty.encs])
      | (refine Run.retP g_r6_Valid (Heap.le_refl _) ?_; simp -implicitDefEqProofs only [rs_r6_Valid, le200, h2, go_sem, eq_self, Nat.reduceEqDiff, Nat.reduceBEq, Nat.reduceAdd, Nat.reduceLeDiff, reduceIte, reduceCtorEq, tysA, tyA, Ty.enc, Ty.encs])
      | (refine XCall.det (hS) ?_; simp -implicitDefEqProofs only [le200, h2, rs_r6_Valid, Bool.not_eq_true', Bool.not_eq_false', go_sem, eq_self, Nat.reduceEqDiff, Nat.reduceBEq, Nat.reduceAdd, Nat.reduceLeDiff, reduceIte, reduceCtorEq, tysA, tyA, Ty.enc, Ty.encs])
      | (refine XCall.det (hv) ?_; simp -implicitDefEqProofs only [le200, h2, rs_r6_Valid, Bool.not_eq_true', Bool.not_eq_false', go_sem, eq_self, Nat.reduceEqDiff, Nat.reduceBEq, Nat.reduceAdd, Nat.reduceLeDiff, reduceIte, reduceCtorEq, tysA, tyA, Ty.enc, Ty.encs])
      | (refine xo_gs rfl (fun h => ?_) (fun h => ?_) <;> first | (cases h; done) | simp -implicitDefEqProofs only [le200, h2, rs_r6_Valid, Bool.not_eq_true', Bool.not_eq_false', go_sem, eq_self, Nat.reduceEqDiff, Nat.reduceBEq, Nat.reduceAdd, Nat.reduceLeDiff, reduceIte, reduceCtorEq, tysA, tyA, Ty.enc, Ty.encs])
      | (refine ⟨fun h => ?_, fun h => ?_⟩ <;> first | (cases h; done) | (simp -implicitDefEqProofs only [h]; done) | (try simp -implicitDefEqProofs only [h]))
      | fail))
  | false => (repeat' (first
      | refine Run.seq ?_
      | refine Run.skip ?_
      | refine Run.block ?_
      | refine Run.blk ?_
      | refine Run.scope ?_
      | refine Run.scp ?_
      | (refine Run.exit rfl ?_)
      | (refine Run.reg mixed ?_; simp -implicitDefEqProofs only [le200, h2, rs_r6_Valid, Bool.not_eq_true', Bool.not_eq_false', go_sem, eq_self, Nat.reduceEqDiff, Nat.reduceBEq, Nat.reduceAdd, Nat.reduceLeDiff, reduceIte, reduceCtorEq, tysA, tyA, Ty.enc, Ty.encs])
      | (refine Run.condM ?_; simp -implicitDefEqProofs only [le200, h2, rs_r6_Valid, Bool.not_eq_true', Bool.not_eq_false', go_sem, eq_self, Nat.reduceEqDiff, Nat.reduceBEq, Nat.reduceAdd, Nat.reduceLeDiff, reduceIte, reduceCtorEq, tysA, tyA, Ty.enc, Ty.encs])
      | (refine Run.retP g_r6_Valid (Heap.le_refl _) ?_; simp -implicitDefEqProofs only [rs_r6_Valid, le200, h2, go_sem, eq_self, Nat.reduceEqDiff, Nat.reduceBEq, Nat.reduceAdd, Nat.reduceLeDiff, reduceIte, reduceCtorEq, tysA, tyA, Ty.enc, Ty.encs])
      | (refine XCall.det (hS) ?_; simp -implicitDefEqProofs only [le200, h2, rs_r6_Valid, Bool.not_eq_true', Bool.not_eq_false', go_sem, eq_self, Nat.reduceEqDiff, Nat.reduceBEq, Nat.reduceAdd, Nat.reduceLeDiff, reduceIte, reduceCtorEq, tysA, tyA, Ty.enc, Ty.encs])
      | (refine XCall.det (hv) ?_; simp -implicitDefEqProofs only [le200, h2, rs_r6_Valid, Bool.not_eq_true', Bool.not_eq_false', go_sem, eq_self, Nat.reduceEqDiff, Nat.reduceBEq, Nat.reduceAdd, Nat.reduceLeDiff, reduceIte, reduceCtorEq, tysA, tyA, Ty.enc, Ty.encs])
      | (refine xo_gs rfl (fun h => ?_) (fun h => ?_) <;> first | (cases h; done) | simp -implicitDefEqProofs only [le200, h2, rs_r6_Valid, Bool.not_eq_true', Bool.not_eq_false', go_sem, eq_self, Nat.reduceEqDiff, Nat.reduceBEq, Nat.reduceAdd, Nat.reduceLeDiff, reduceIte, reduceCtorEq, tysA, tyA, Ty.enc, Ty.encs])
      | (refine ⟨fun h => ?_, fun h => ?_⟩ <;> first | (cases h; done) | (simp -implicitDefEqProofs only [h]; done) | (try simp -implicitDefEqProofs only [h]))
      | fail))
end Go.Ab
