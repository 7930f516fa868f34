/- Validity of types: the validator and the reference. Conditions: none. -/
import Derived.Test.YtdbpmhfepfpldaaDoorXHb
set_option linter.unusedSimpArgs false
set_option linter.unusedVariables false
namespace Go.Ab
open Go.Proofs

theorem ContainsT_ok {data : List Dat} {vars : Int} {i j L : Nat} (hV : ∀ m, m ≤ L → VOK data vars i m) (l : List Ty) (σ : Heap) (hL : L ≤ 1000000) (hi : σ.blk i = some (vb data vars L)) (hj : σ.blk j = some [.gp i 0]) (hij : j ≠ i) :
    ACalls Tryd.prog 78 [tysA l, .fn 79 [] [.gp j 0]] σ (fun v σ' => ∃ L', v = .d (.bool (!(decide (Ty.sizes l ≤ L) && validTs data vars l))) ∧ σ' = σ.setBlk i (vb data vars L') ∧ ((decide (Ty.sizes l ≤ L) && validTs data vars l) = true → L' = ((L - Ty.sizes l : Nat) : Int))) := by
  refine i_slices_ContainsFunc_api_Type (by simp) ?_
  rw [argF_2, tysA]
  (repeat' (first
      | refine Run.seq ?_
      | refine Run.skip ?_
      | refine Run.block ?_
      | refine Run.blk ?_
      | refine Run.scope ?_
      | refine Run.scp ?_
      | (refine Run.exit rfl ?_)
      | (refine Run.reg mixed ?_; simp -implicitDefEqProofs only [rs_slices_ContainsFunc_api_Type, Bool.not_eq_true', Bool.not_eq_false', go_sem, eq_self, Nat.reduceEqDiff, Nat.reduceBEq, Nat.reduceAdd, Nat.reduceLeDiff, reduceIte, reduceCtorEq, tysA, tyA, Ty.enc, Ty.encs])
      | (refine Run.condM ?_; simp -implicitDefEqProofs only [rs_slices_ContainsFunc_api_Type, Bool.not_eq_true', Bool.not_eq_false', go_sem, eq_self, Nat.reduceEqDiff, Nat.reduceBEq, Nat.reduceAdd, Nat.reduceLeDiff, reduceIte, reduceCtorEq, tysA, tyA, Ty.enc, Ty.encs])
      | (refine XCall.mk rfl (IndexT_ok hV l σ hL hi hj hij) ?_; rintro _ _ ⟨r, L', rfl, rfl, hr, hL'⟩; (try simp -implicitDefEqProofs only [rs_slices_ContainsFunc_api_Type, Bool.not_eq_true', Bool.not_eq_false', go_sem, eq_self, Nat.reduceEqDiff, Nat.reduceBEq, Nat.reduceAdd, Nat.reduceLeDiff, reduceIte, reduceCtorEq, tysA, tyA, Ty.enc, Ty.encs]))
      | (refine xo_gs rfl (fun h => ?_) (fun h => ?_) <;> first | (cases h; done) | simp -implicitDefEqProofs only [rs_slices_ContainsFunc_api_Type, Bool.not_eq_true', Bool.not_eq_false', go_sem, eq_self, Nat.reduceEqDiff, Nat.reduceBEq, Nat.reduceAdd, Nat.reduceLeDiff, reduceIte, reduceCtorEq, tysA, tyA, Ty.enc, Ty.encs])
      | (refine ⟨fun h => ?_, fun h => ?_⟩ <;> first | (cases h; done) | (simp -implicitDefEqProofs only [h]; done) | (try simp -implicitDefEqProofs only [h]))
      | fail))
  simp -implicitDefEqProofs only [hr, go_sem, eq_self, Nat.reduceEqDiff, Nat.reduceBEq, Nat.reduceAdd, Nat.reduceLeDiff, reduceIte, reduceCtorEq, tysA, tyA, Ty.enc, Ty.encs]
  (repeat' (first
      | refine Run.seq ?_
      | refine Run.skip ?_
      | refine Run.block ?_
      | refine Run.blk ?_
      | refine Run.scope ?_
      | refine Run.scp ?_
      | (refine Run.exit rfl ?_)
      | (refine Run.reg mixed ?_; simp -implicitDefEqProofs only [hr, rs_slices_ContainsFunc_api_Type, Bool.not_eq_true', Bool.not_eq_false', go_sem, eq_self, Nat.reduceEqDiff, Nat.reduceBEq, Nat.reduceAdd, Nat.reduceLeDiff, reduceIte, reduceCtorEq, tysA, tyA, Ty.enc, Ty.encs])
      | (refine Run.condM ?_; simp -implicitDefEqProofs only [hr, rs_slices_ContainsFunc_api_Type, Bool.not_eq_true', Bool.not_eq_false', go_sem, eq_self, Nat.reduceEqDiff, Nat.reduceBEq, Nat.reduceAdd, Nat.reduceLeDiff, reduceIte, reduceCtorEq, tysA, tyA, Ty.enc, Ty.encs])
      | (refine Run.retR g_slices_ContainsFunc_api_Type (Heap.le_refl _) ?_; simp -implicitDefEqProofs only [rs_slices_ContainsFunc_api_Type, hr, go_sem, eq_self, Nat.reduceEqDiff, Nat.reduceBEq, Nat.reduceAdd, Nat.reduceLeDiff, reduceIte, reduceCtorEq, tysA, tyA, Ty.enc, Ty.encs])
      | (refine xo_gs rfl (fun h => ?_) (fun h => ?_) <;> first | (cases h; done) | simp -implicitDefEqProofs only [hr, rs_slices_ContainsFunc_api_Type, Bool.not_eq_true', Bool.not_eq_false', go_sem, eq_self, Nat.reduceEqDiff, Nat.reduceBEq, Nat.reduceAdd, Nat.reduceLeDiff, reduceIte, reduceCtorEq, tysA, tyA, Ty.enc, Ty.encs])
      | (refine ⟨fun h => ?_, fun h => ?_⟩ <;> first | (cases h; done) | (simp -implicitDefEqProofs only [h]; done) | (try simp -implicitDefEqProofs only [h]))
      | fail))
  have hfin : (decide (Ty.sizes l ≤ L) && validTs data vars l) = true → L' = ((L - Ty.sizes l : Nat) : Int) := fun h => hL' (by
    rw [h] at hr
    simp at hr; omega)
  first
  | exact ⟨L', rfl, rfl, hfin⟩
  | exact ⟨L', rfl, hfin⟩
  | exact ⟨L', hfin⟩

theorem vb_le {σ : Heap} {i j : Nat} {cs x : List AV} (hj : σ.blk j = none) (hij : j ≠ i) : (σ.setBlk i cs).le ((σ.setBlk j x).setBlk i cs) :=
  ⟨fun q ds hq => by
    simp only [setBlk_get] at hq ⊢
    split
    · rename_i e; rw [if_pos e] at hq; exact hq
    · rename_i e
      rw [if_neg e] at hq
      have : q ≠ j := fun e' => by rw [e', hj] at hq; cases hq
      rw [if_neg this]; exact hq, fun _ h => h, rfl, fun _ _ h => h⟩

theorem lenF {n : Nat} {c : Int} (h : (n : Int) < c) : decide ((n : Int) < c) = true := by simpa using h
theorem lenG {n : Nat} {c : Int} (h : ¬ (n : Int) < c) : decide ((n : Int) < c) = false := by simpa using h
theorem gtF {n : Nat} {c : Int} (h : c < (n : Int)) : decide (c < (n : Int)) = true := by simpa using h
theorem gtG {n : Nat} {c : Int} (h : ¬ c < (n : Int)) : decide (c < (n : Int)) = false := by simpa using h
theorem neB {a b : Int} (h : a ≠ b) : (a != b) = true := by simpa using h
theorem eqB {a b : Int} (h : a = b) : (a != b) = false := by simpa using h

set_option maxHeartbeats 8000000 in
theorem valid_ok (data : List Dat) (vars : Int) (i : Nat) (L : Nat) : L ≤ 1000000 → VOK data vars i L := by
  induction L using Nat.strongRecOn with
  | _ L ih =>
    intro hLm t σ hi
    obtain ⟨kd, nm, l⟩ := t
    have hpos := ty_pos (.mk kd nm l)
    have hsz : (Ty.mk kd nm l).size = 1 + Ty.sizes l := rfl
    refine i_typing_validator_valid (by simp) ?_
    rw [argF_2]
    unfold vb dsA at hi
    (repeat' (first
      | refine Run.seq ?_
      | refine Run.skip ?_
      | refine Run.block ?_
      | refine Run.blk ?_
      | refine Run.scope ?_
      | refine Run.scp ?_
      | (refine Run.exit rfl ?_)
      | (refine Run.reg mixed ?_; simp -implicitDefEqProofs only [rs_typing_validator_valid, Bool.not_eq_true', Bool.not_eq_false', go_sem, eq_self, Nat.reduceEqDiff, Nat.reduceBEq, Nat.reduceAdd, Nat.reduceLeDiff, reduceIte, reduceCtorEq, tysA, tyA, Ty.enc, Ty.encs])
      | (refine Run.condM ?_; simp -implicitDefEqProofs only [rs_typing_validator_valid, Bool.not_eq_true', Bool.not_eq_false', go_sem, eq_self, Nat.reduceEqDiff, Nat.reduceBEq, Nat.reduceAdd, Nat.reduceLeDiff, reduceIte, reduceCtorEq, tysA, tyA, Ty.enc, Ty.encs])
      | (refine xo_gs rfl (fun h => ?_) (fun h => ?_) <;> first | (cases h; done) | simp -implicitDefEqProofs only [rs_typing_validator_valid, Bool.not_eq_true', Bool.not_eq_false', go_sem, eq_self, Nat.reduceEqDiff, Nat.reduceBEq, Nat.reduceAdd, Nat.reduceLeDiff, reduceIte, reduceCtorEq, tysA, tyA, Ty.enc, Ty.encs])
      | (refine ⟨fun h => ?_, fun h => ?_⟩ <;> first | (cases h; done) | (simp -implicitDefEqProofs only [h]; done) | (try simp -implicitDefEqProofs only [h]))
      | fail))
    intro j hj
    have hij : j ≠ i := fun e => by rw [e, hi] at hj; cases hj
    have n1 : (i = j) = False := by simp; exact fun e => hij e.symm
    have n2 : (j = i) = False := by simp; exact hij
    cases L with
    | zero =>
      have hw : IntKind.i64.wrap (((0 : Nat) : Int) - 1) = -1 := by decide
      have hc : decide ((-1 : Int) < 0) = true := by decide
      (repeat' (first
      | refine Run.seq ?_
      | refine Run.skip ?_
      | refine Run.block ?_
      | refine Run.blk ?_
      | refine Run.scope ?_
      | refine Run.scp ?_
      | (refine Run.exit rfl ?_)
      | (refine Run.reg mixed ?_; simp -implicitDefEqProofs only [hi, n1, n2, hw, hc, rs_typing_validator_valid, Bool.not_eq_true', Bool.not_eq_false', go_sem, eq_self, Nat.reduceEqDiff, Nat.reduceBEq, Nat.reduceAdd, Nat.reduceLeDiff, reduceIte, reduceCtorEq, tysA, tyA, Ty.enc, Ty.encs])
      | (refine Run.condM ?_; simp -implicitDefEqProofs only [hi, n1, n2, hw, hc, rs_typing_validator_valid, Bool.not_eq_true', Bool.not_eq_false', go_sem, eq_self, Nat.reduceEqDiff, Nat.reduceBEq, Nat.reduceAdd, Nat.reduceLeDiff, reduceIte, reduceCtorEq, tysA, tyA, Ty.enc, Ty.encs])
      | (refine Run.retP g_typing_validator_valid (vb_le hj hij) ?_; (try simp -implicitDefEqProofs only [hi, n1, n2, hw, hc, rs_typing_validator_valid, Bool.not_eq_true', Bool.not_eq_false', go_sem, eq_self, Nat.reduceEqDiff, Nat.reduceBEq, Nat.reduceAdd, Nat.reduceLeDiff, reduceIte, reduceCtorEq, tysA, tyA, Ty.enc, Ty.encs]))
      | (refine xo_gs rfl (fun h => ?_) (fun h => ?_) <;> first | (cases h; done) | simp -implicitDefEqProofs only [hi, n1, n2, hw, hc, rs_typing_validator_valid, Bool.not_eq_true', Bool.not_eq_false', go_sem, eq_self, Nat.reduceEqDiff, Nat.reduceBEq, Nat.reduceAdd, Nat.reduceLeDiff, reduceIte, reduceCtorEq, tysA, tyA, Ty.enc, Ty.encs])
      | (refine ⟨fun h => ?_, fun h => ?_⟩ <;> first | (cases h; done) | (simp -implicitDefEqProofs only [h]; done) | (try simp -implicitDefEqProofs only [h]))
      | fail))
      refine ⟨false, -1, rfl, rfl, ?_, fun h => by cases h⟩
      have : ¬ (Ty.mk kd nm l).size ≤ 0 := by omega
      simp [this]
    | succ L =>
    have hw := wrap_sub1' (show L ≤ 9000000000000000000 by omega)
    have hc : decide ((L : Int) < 0) = false := by simp
    have hV : ∀ m, m ≤ L → VOK data vars i m := fun m hm => ih m (by omega) (by omega)
    have hcall := ContainsT_ok hV l ((σ.setBlk j [.gp i 0]).setBlk i (vb data vars (L : Int))) (j := j) (by omega) (by simp only [setBlk_get, if_true]) (by simp only [setBlk_get, n2, if_false, if_true]) hij
    simp only [setBlk_set] at hcall
    have hno : ∀ L' : Int, shapeOk data vars kd nm l.length = false → VQ data vars i (L + 1) (.mk kd nm l) σ (.d (.bool false)) (σ.setBlk i (vb data vars L')) := fun L' h =>
      ⟨false, L', rfl, rfl, by simp [validT, h], fun h => by cases h⟩
    have hyes : ∀ (b : Bool) (L' : Int), shapeOk data vars kd nm l.length = true → b = (decide (Ty.sizes l ≤ L) && validTs data vars l) → (b = true → L' = ((L - Ty.sizes l : Nat) : Int)) → VQ data vars i (L + 1) (.mk kd nm l) σ (.d (.bool b)) (σ.setBlk i (vb data vars L')) := fun b L' h hb hL' => by
      refine ⟨b, L', rfl, rfl, ?_, fun hbt => ?_⟩
      · rw [hb, validT, h, Bool.true_and, hsz]
        congr 1
        simp; omega
      · rw [hL' hbt, hsz]; congr 1; omega
    unfold vb dsA at hcall

    by_cases k1 : kd = 1
    · subst k1
      have e1 : ((1 : Int) == 1) = true := by decide
      have e2 : ((1 : Int) == 2) = false := by decide
      have e3 : ((1 : Int) == 3) = false := by decide
      have e4 : ((1 : Int) == 4) = false := by decide
      have e5 : ((1 : Int) == 5) = false := by decide
      have e6 : ((1 : Int) == 6) = false := by decide
      have e7 : ((1 : Int) == 7) = false := by decide
      have e8 : ((1 : Int) == 8) = false := by decide
      have e9 : ((1 : Int) == 9) = false := by decide
      have m4 : ((1 : Int) != 4) = true := by decide
      have m5 : ((1 : Int) != 5) = true := by decide
      by_cases hn : nm = 0
      case neg =>
        (repeat' (first
      | refine Run.seq ?_
      | refine Run.skip ?_
      | refine Run.block ?_
      | refine Run.blk ?_
      | refine Run.scope ?_
      | refine Run.scp ?_
      | (refine Run.exit rfl ?_)
      | (refine Run.reg mixed ?_; simp -implicitDefEqProofs only [hi, n1, n2, hw, hc, e1, e2, e3, e4, e5, e6, e7, e8, e9, m4, m5, neB hn, rs_typing_validator_valid, Bool.not_eq_true', Bool.not_eq_false', go_sem, eq_self, Nat.reduceEqDiff, Nat.reduceBEq, Nat.reduceAdd, Nat.reduceLeDiff, reduceIte, reduceCtorEq, tysA, tyA, Ty.enc, Ty.encs])
      | (refine Run.condM ?_; simp -implicitDefEqProofs only [hi, n1, n2, hw, hc, e1, e2, e3, e4, e5, e6, e7, e8, e9, m4, m5, neB hn, rs_typing_validator_valid, Bool.not_eq_true', Bool.not_eq_false', go_sem, eq_self, Nat.reduceEqDiff, Nat.reduceBEq, Nat.reduceAdd, Nat.reduceLeDiff, reduceIte, reduceCtorEq, tysA, tyA, Ty.enc, Ty.encs])
      | (refine Run.retP g_typing_validator_valid (vb_le hj hij) ?_; (try simp -implicitDefEqProofs only [hi, n1, n2, hw, hc, e1, e2, e3, e4, e5, e6, e7, e8, e9, m4, m5, neB hn, rs_typing_validator_valid, Bool.not_eq_true', Bool.not_eq_false', go_sem, eq_self, Nat.reduceEqDiff, Nat.reduceBEq, Nat.reduceAdd, Nat.reduceLeDiff, reduceIte, reduceCtorEq, tysA, tyA, Ty.enc, Ty.encs]))
      | (refine xo_gs rfl (fun h => ?_) (fun h => ?_) <;> first | (cases h; done) | simp -implicitDefEqProofs only [hi, n1, n2, hw, hc, e1, e2, e3, e4, e5, e6, e7, e8, e9, m4, m5, neB hn, rs_typing_validator_valid, Bool.not_eq_true', Bool.not_eq_false', go_sem, eq_self, Nat.reduceEqDiff, Nat.reduceBEq, Nat.reduceAdd, Nat.reduceLeDiff, reduceIte, reduceCtorEq, tysA, tyA, Ty.enc, Ty.encs])
      | (refine ⟨fun h => ?_, fun h => ?_⟩ <;> first | (cases h; done) | (simp -implicitDefEqProofs only [h]; done) | (try simp -implicitDefEqProofs only [h]))
      | fail))
        exact hno _ (by
          simp [shapeOk, hn])
      have l1 := lenG (n := l.length) (c := 0) (by omega)
      by_cases hl : l.length = 0
      case neg =>
        (repeat' (first
      | refine Run.seq ?_
      | refine Run.skip ?_
      | refine Run.block ?_
      | refine Run.blk ?_
      | refine Run.scope ?_
      | refine Run.scp ?_
      | (refine Run.exit rfl ?_)
      | (refine Run.reg mixed ?_; simp -implicitDefEqProofs only [hi, n1, n2, hw, hc, e1, e2, e3, e4, e5, e6, e7, e8, e9, m4, m5, eqB hn, encs_len, l1, gtF (n := l.length) (c := 0) (by omega), rs_typing_validator_valid, Bool.not_eq_true', Bool.not_eq_false', go_sem, eq_self, Nat.reduceEqDiff, Nat.reduceBEq, Nat.reduceAdd, Nat.reduceLeDiff, reduceIte, reduceCtorEq, tysA, tyA, Ty.enc, Ty.encs])
      | (refine Run.condM ?_; simp -implicitDefEqProofs only [hi, n1, n2, hw, hc, e1, e2, e3, e4, e5, e6, e7, e8, e9, m4, m5, eqB hn, encs_len, l1, gtF (n := l.length) (c := 0) (by omega), rs_typing_validator_valid, Bool.not_eq_true', Bool.not_eq_false', go_sem, eq_self, Nat.reduceEqDiff, Nat.reduceBEq, Nat.reduceAdd, Nat.reduceLeDiff, reduceIte, reduceCtorEq, tysA, tyA, Ty.enc, Ty.encs])
      | (refine Run.retP g_typing_validator_valid (vb_le hj hij) ?_; (try simp -implicitDefEqProofs only [hi, n1, n2, hw, hc, e1, e2, e3, e4, e5, e6, e7, e8, e9, m4, m5, eqB hn, encs_len, l1, gtF (n := l.length) (c := 0) (by omega), rs_typing_validator_valid, Bool.not_eq_true', Bool.not_eq_false', go_sem, eq_self, Nat.reduceEqDiff, Nat.reduceBEq, Nat.reduceAdd, Nat.reduceLeDiff, reduceIte, reduceCtorEq, tysA, tyA, Ty.enc, Ty.encs]))
      | (refine xo_gs rfl (fun h => ?_) (fun h => ?_) <;> first | (cases h; done) | simp -implicitDefEqProofs only [hi, n1, n2, hw, hc, e1, e2, e3, e4, e5, e6, e7, e8, e9, m4, m5, eqB hn, encs_len, l1, gtF (n := l.length) (c := 0) (by omega), rs_typing_validator_valid, Bool.not_eq_true', Bool.not_eq_false', go_sem, eq_self, Nat.reduceEqDiff, Nat.reduceBEq, Nat.reduceAdd, Nat.reduceLeDiff, reduceIte, reduceCtorEq, tysA, tyA, Ty.enc, Ty.encs])
      | (refine ⟨fun h => ?_, fun h => ?_⟩ <;> first | (cases h; done) | (simp -implicitDefEqProofs only [h]; done) | (try simp -implicitDefEqProofs only [h]))
      | fail))
        exact hno _ (by
          simp [shapeOk, hl])
      (repeat' (first
      | refine Run.seq ?_
      | refine Run.skip ?_
      | refine Run.block ?_
      | refine Run.blk ?_
      | refine Run.scope ?_
      | refine Run.scp ?_
      | (refine Run.exit rfl ?_)
      | (refine Run.reg mixed ?_; simp -implicitDefEqProofs only [hi, n1, n2, hw, hc, e1, e2, e3, e4, e5, e6, e7, e8, e9, m4, m5, eqB hn, l1, gtG (n := l.length) (c := 0) (by omega), encs_len, rs_typing_validator_valid, Bool.not_eq_true', Bool.not_eq_false', go_sem, eq_self, Nat.reduceEqDiff, Nat.reduceBEq, Nat.reduceAdd, Nat.reduceLeDiff, reduceIte, reduceCtorEq, tysA, tyA, Ty.enc, Ty.encs])
      | (refine Run.condM ?_; simp -implicitDefEqProofs only [hi, n1, n2, hw, hc, e1, e2, e3, e4, e5, e6, e7, e8, e9, m4, m5, eqB hn, l1, gtG (n := l.length) (c := 0) (by omega), encs_len, rs_typing_validator_valid, Bool.not_eq_true', Bool.not_eq_false', go_sem, eq_self, Nat.reduceEqDiff, Nat.reduceBEq, Nat.reduceAdd, Nat.reduceLeDiff, reduceIte, reduceCtorEq, tysA, tyA, Ty.enc, Ty.encs])
      | (refine XCall.mk rfl hcall ?_; rintro _ _ ⟨L', rfl, rfl, hL'⟩; (try simp -implicitDefEqProofs only [hi, n1, n2, hw, hc, e1, e2, e3, e4, e5, e6, e7, e8, e9, m4, m5, eqB hn, l1, gtG (n := l.length) (c := 0) (by omega), encs_len, rs_typing_validator_valid, Bool.not_eq_true', Bool.not_eq_false', go_sem, eq_self, Nat.reduceEqDiff, Nat.reduceBEq, Nat.reduceAdd, Nat.reduceLeDiff, reduceIte, reduceCtorEq, tysA, tyA, Ty.enc, Ty.encs]))
      | (refine Run.retP g_typing_validator_valid (vb_le hj hij) ?_; (try simp -implicitDefEqProofs only [hi, n1, n2, hw, hc, e1, e2, e3, e4, e5, e6, e7, e8, e9, m4, m5, eqB hn, l1, gtG (n := l.length) (c := 0) (by omega), encs_len, rs_typing_validator_valid, Bool.not_eq_true', Bool.not_eq_false', go_sem, eq_self, Nat.reduceEqDiff, Nat.reduceBEq, Nat.reduceAdd, Nat.reduceLeDiff, reduceIte, reduceCtorEq, tysA, tyA, Ty.enc, Ty.encs]))
      | (refine xo_gs rfl (fun h => ?_) (fun h => ?_) <;> first | (cases h; done) | simp -implicitDefEqProofs only [hi, n1, n2, hw, hc, e1, e2, e3, e4, e5, e6, e7, e8, e9, m4, m5, eqB hn, l1, gtG (n := l.length) (c := 0) (by omega), encs_len, rs_typing_validator_valid, Bool.not_eq_true', Bool.not_eq_false', go_sem, eq_self, Nat.reduceEqDiff, Nat.reduceBEq, Nat.reduceAdd, Nat.reduceLeDiff, reduceIte, reduceCtorEq, tysA, tyA, Ty.enc, Ty.encs])
      | (refine ⟨fun h => ?_, fun h => ?_⟩ <;> first | (cases h; done) | (simp -implicitDefEqProofs only [h]; done) | (try simp -implicitDefEqProofs only [h]))
      | fail))
      have hshape : shapeOk data vars 1 nm l.length = true := by
        simp [shapeOk, hn, hl]
      exact hyes _ L' hshape (by simp) (fun h => hL' (by simpa using h))
    by_cases k2 : kd = 2
    · subst k2
      have e1 : ((2 : Int) == 1) = false := by decide
      have e2 : ((2 : Int) == 2) = true := by decide
      have e3 : ((2 : Int) == 3) = false := by decide
      have e4 : ((2 : Int) == 4) = false := by decide
      have e5 : ((2 : Int) == 5) = false := by decide
      have e6 : ((2 : Int) == 6) = false := by decide
      have e7 : ((2 : Int) == 7) = false := by decide
      have e8 : ((2 : Int) == 8) = false := by decide
      have e9 : ((2 : Int) == 9) = false := by decide
      have m4 : ((2 : Int) != 4) = true := by decide
      have m5 : ((2 : Int) != 5) = true := by decide
      by_cases hn : nm = 0
      case neg =>
        (repeat' (first
      | refine Run.seq ?_
      | refine Run.skip ?_
      | refine Run.block ?_
      | refine Run.blk ?_
      | refine Run.scope ?_
      | refine Run.scp ?_
      | (refine Run.exit rfl ?_)
      | (refine Run.reg mixed ?_; simp -implicitDefEqProofs only [hi, n1, n2, hw, hc, e1, e2, e3, e4, e5, e6, e7, e8, e9, m4, m5, neB hn, rs_typing_validator_valid, Bool.not_eq_true', Bool.not_eq_false', go_sem, eq_self, Nat.reduceEqDiff, Nat.reduceBEq, Nat.reduceAdd, Nat.reduceLeDiff, reduceIte, reduceCtorEq, tysA, tyA, Ty.enc, Ty.encs])
      | (refine Run.condM ?_; simp -implicitDefEqProofs only [hi, n1, n2, hw, hc, e1, e2, e3, e4, e5, e6, e7, e8, e9, m4, m5, neB hn, rs_typing_validator_valid, Bool.not_eq_true', Bool.not_eq_false', go_sem, eq_self, Nat.reduceEqDiff, Nat.reduceBEq, Nat.reduceAdd, Nat.reduceLeDiff, reduceIte, reduceCtorEq, tysA, tyA, Ty.enc, Ty.encs])
      | (refine Run.retP g_typing_validator_valid (vb_le hj hij) ?_; (try simp -implicitDefEqProofs only [hi, n1, n2, hw, hc, e1, e2, e3, e4, e5, e6, e7, e8, e9, m4, m5, neB hn, rs_typing_validator_valid, Bool.not_eq_true', Bool.not_eq_false', go_sem, eq_self, Nat.reduceEqDiff, Nat.reduceBEq, Nat.reduceAdd, Nat.reduceLeDiff, reduceIte, reduceCtorEq, tysA, tyA, Ty.enc, Ty.encs]))
      | (refine xo_gs rfl (fun h => ?_) (fun h => ?_) <;> first | (cases h; done) | simp -implicitDefEqProofs only [hi, n1, n2, hw, hc, e1, e2, e3, e4, e5, e6, e7, e8, e9, m4, m5, neB hn, rs_typing_validator_valid, Bool.not_eq_true', Bool.not_eq_false', go_sem, eq_self, Nat.reduceEqDiff, Nat.reduceBEq, Nat.reduceAdd, Nat.reduceLeDiff, reduceIte, reduceCtorEq, tysA, tyA, Ty.enc, Ty.encs])
      | (refine ⟨fun h => ?_, fun h => ?_⟩ <;> first | (cases h; done) | (simp -implicitDefEqProofs only [h]; done) | (try simp -implicitDefEqProofs only [h]))
      | fail))
        exact hno _ (by
          simp [shapeOk, hn])
      have l1 := lenG (n := l.length) (c := 0) (by omega)
      by_cases hl : l.length = 0
      case neg =>
        (repeat' (first
      | refine Run.seq ?_
      | refine Run.skip ?_
      | refine Run.block ?_
      | refine Run.blk ?_
      | refine Run.scope ?_
      | refine Run.scp ?_
      | (refine Run.exit rfl ?_)
      | (refine Run.reg mixed ?_; simp -implicitDefEqProofs only [hi, n1, n2, hw, hc, e1, e2, e3, e4, e5, e6, e7, e8, e9, m4, m5, eqB hn, encs_len, l1, gtF (n := l.length) (c := 0) (by omega), rs_typing_validator_valid, Bool.not_eq_true', Bool.not_eq_false', go_sem, eq_self, Nat.reduceEqDiff, Nat.reduceBEq, Nat.reduceAdd, Nat.reduceLeDiff, reduceIte, reduceCtorEq, tysA, tyA, Ty.enc, Ty.encs])
      | (refine Run.condM ?_; simp -implicitDefEqProofs only [hi, n1, n2, hw, hc, e1, e2, e3, e4, e5, e6, e7, e8, e9, m4, m5, eqB hn, encs_len, l1, gtF (n := l.length) (c := 0) (by omega), rs_typing_validator_valid, Bool.not_eq_true', Bool.not_eq_false', go_sem, eq_self, Nat.reduceEqDiff, Nat.reduceBEq, Nat.reduceAdd, Nat.reduceLeDiff, reduceIte, reduceCtorEq, tysA, tyA, Ty.enc, Ty.encs])
      | (refine Run.retP g_typing_validator_valid (vb_le hj hij) ?_; (try simp -implicitDefEqProofs only [hi, n1, n2, hw, hc, e1, e2, e3, e4, e5, e6, e7, e8, e9, m4, m5, eqB hn, encs_len, l1, gtF (n := l.length) (c := 0) (by omega), rs_typing_validator_valid, Bool.not_eq_true', Bool.not_eq_false', go_sem, eq_self, Nat.reduceEqDiff, Nat.reduceBEq, Nat.reduceAdd, Nat.reduceLeDiff, reduceIte, reduceCtorEq, tysA, tyA, Ty.enc, Ty.encs]))
      | (refine xo_gs rfl (fun h => ?_) (fun h => ?_) <;> first | (cases h; done) | simp -implicitDefEqProofs only [hi, n1, n2, hw, hc, e1, e2, e3, e4, e5, e6, e7, e8, e9, m4, m5, eqB hn, encs_len, l1, gtF (n := l.length) (c := 0) (by omega), rs_typing_validator_valid, Bool.not_eq_true', Bool.not_eq_false', go_sem, eq_self, Nat.reduceEqDiff, Nat.reduceBEq, Nat.reduceAdd, Nat.reduceLeDiff, reduceIte, reduceCtorEq, tysA, tyA, Ty.enc, Ty.encs])
      | (refine ⟨fun h => ?_, fun h => ?_⟩ <;> first | (cases h; done) | (simp -implicitDefEqProofs only [h]; done) | (try simp -implicitDefEqProofs only [h]))
      | fail))
        exact hno _ (by
          simp [shapeOk, hl])
      (repeat' (first
      | refine Run.seq ?_
      | refine Run.skip ?_
      | refine Run.block ?_
      | refine Run.blk ?_
      | refine Run.scope ?_
      | refine Run.scp ?_
      | (refine Run.exit rfl ?_)
      | (refine Run.reg mixed ?_; simp -implicitDefEqProofs only [hi, n1, n2, hw, hc, e1, e2, e3, e4, e5, e6, e7, e8, e9, m4, m5, eqB hn, l1, gtG (n := l.length) (c := 0) (by omega), encs_len, rs_typing_validator_valid, Bool.not_eq_true', Bool.not_eq_false', go_sem, eq_self, Nat.reduceEqDiff, Nat.reduceBEq, Nat.reduceAdd, Nat.reduceLeDiff, reduceIte, reduceCtorEq, tysA, tyA, Ty.enc, Ty.encs])
      | (refine Run.condM ?_; simp -implicitDefEqProofs only [hi, n1, n2, hw, hc, e1, e2, e3, e4, e5, e6, e7, e8, e9, m4, m5, eqB hn, l1, gtG (n := l.length) (c := 0) (by omega), encs_len, rs_typing_validator_valid, Bool.not_eq_true', Bool.not_eq_false', go_sem, eq_self, Nat.reduceEqDiff, Nat.reduceBEq, Nat.reduceAdd, Nat.reduceLeDiff, reduceIte, reduceCtorEq, tysA, tyA, Ty.enc, Ty.encs])
      | (refine XCall.mk rfl hcall ?_; rintro _ _ ⟨L', rfl, rfl, hL'⟩; (try simp -implicitDefEqProofs only [hi, n1, n2, hw, hc, e1, e2, e3, e4, e5, e6, e7, e8, e9, m4, m5, eqB hn, l1, gtG (n := l.length) (c := 0) (by omega), encs_len, rs_typing_validator_valid, Bool.not_eq_true', Bool.not_eq_false', go_sem, eq_self, Nat.reduceEqDiff, Nat.reduceBEq, Nat.reduceAdd, Nat.reduceLeDiff, reduceIte, reduceCtorEq, tysA, tyA, Ty.enc, Ty.encs]))
      | (refine Run.retP g_typing_validator_valid (vb_le hj hij) ?_; (try simp -implicitDefEqProofs only [hi, n1, n2, hw, hc, e1, e2, e3, e4, e5, e6, e7, e8, e9, m4, m5, eqB hn, l1, gtG (n := l.length) (c := 0) (by omega), encs_len, rs_typing_validator_valid, Bool.not_eq_true', Bool.not_eq_false', go_sem, eq_self, Nat.reduceEqDiff, Nat.reduceBEq, Nat.reduceAdd, Nat.reduceLeDiff, reduceIte, reduceCtorEq, tysA, tyA, Ty.enc, Ty.encs]))
      | (refine xo_gs rfl (fun h => ?_) (fun h => ?_) <;> first | (cases h; done) | simp -implicitDefEqProofs only [hi, n1, n2, hw, hc, e1, e2, e3, e4, e5, e6, e7, e8, e9, m4, m5, eqB hn, l1, gtG (n := l.length) (c := 0) (by omega), encs_len, rs_typing_validator_valid, Bool.not_eq_true', Bool.not_eq_false', go_sem, eq_self, Nat.reduceEqDiff, Nat.reduceBEq, Nat.reduceAdd, Nat.reduceLeDiff, reduceIte, reduceCtorEq, tysA, tyA, Ty.enc, Ty.encs])
      | (refine ⟨fun h => ?_, fun h => ?_⟩ <;> first | (cases h; done) | (simp -implicitDefEqProofs only [h]; done) | (try simp -implicitDefEqProofs only [h]))
      | fail))
      have hshape : shapeOk data vars 2 nm l.length = true := by
        simp [shapeOk, hn, hl]
      exact hyes _ L' hshape (by simp) (fun h => hL' (by simpa using h))
    by_cases k3 : kd = 3
    · subst k3
      have e1 : ((3 : Int) == 1) = false := by decide
      have e2 : ((3 : Int) == 2) = false := by decide
      have e3 : ((3 : Int) == 3) = true := by decide
      have e4 : ((3 : Int) == 4) = false := by decide
      have e5 : ((3 : Int) == 5) = false := by decide
      have e6 : ((3 : Int) == 6) = false := by decide
      have e7 : ((3 : Int) == 7) = false := by decide
      have e8 : ((3 : Int) == 8) = false := by decide
      have e9 : ((3 : Int) == 9) = false := by decide
      have m4 : ((3 : Int) != 4) = true := by decide
      have m5 : ((3 : Int) != 5) = true := by decide
      by_cases hn : nm = 0
      case neg =>
        (repeat' (first
      | refine Run.seq ?_
      | refine Run.skip ?_
      | refine Run.block ?_
      | refine Run.blk ?_
      | refine Run.scope ?_
      | refine Run.scp ?_
      | (refine Run.exit rfl ?_)
      | (refine Run.reg mixed ?_; simp -implicitDefEqProofs only [hi, n1, n2, hw, hc, e1, e2, e3, e4, e5, e6, e7, e8, e9, m4, m5, neB hn, rs_typing_validator_valid, Bool.not_eq_true', Bool.not_eq_false', go_sem, eq_self, Nat.reduceEqDiff, Nat.reduceBEq, Nat.reduceAdd, Nat.reduceLeDiff, reduceIte, reduceCtorEq, tysA, tyA, Ty.enc, Ty.encs])
      | (refine Run.condM ?_; simp -implicitDefEqProofs only [hi, n1, n2, hw, hc, e1, e2, e3, e4, e5, e6, e7, e8, e9, m4, m5, neB hn, rs_typing_validator_valid, Bool.not_eq_true', Bool.not_eq_false', go_sem, eq_self, Nat.reduceEqDiff, Nat.reduceBEq, Nat.reduceAdd, Nat.reduceLeDiff, reduceIte, reduceCtorEq, tysA, tyA, Ty.enc, Ty.encs])
      | (refine Run.retP g_typing_validator_valid (vb_le hj hij) ?_; (try simp -implicitDefEqProofs only [hi, n1, n2, hw, hc, e1, e2, e3, e4, e5, e6, e7, e8, e9, m4, m5, neB hn, rs_typing_validator_valid, Bool.not_eq_true', Bool.not_eq_false', go_sem, eq_self, Nat.reduceEqDiff, Nat.reduceBEq, Nat.reduceAdd, Nat.reduceLeDiff, reduceIte, reduceCtorEq, tysA, tyA, Ty.enc, Ty.encs]))
      | (refine xo_gs rfl (fun h => ?_) (fun h => ?_) <;> first | (cases h; done) | simp -implicitDefEqProofs only [hi, n1, n2, hw, hc, e1, e2, e3, e4, e5, e6, e7, e8, e9, m4, m5, neB hn, rs_typing_validator_valid, Bool.not_eq_true', Bool.not_eq_false', go_sem, eq_self, Nat.reduceEqDiff, Nat.reduceBEq, Nat.reduceAdd, Nat.reduceLeDiff, reduceIte, reduceCtorEq, tysA, tyA, Ty.enc, Ty.encs])
      | (refine ⟨fun h => ?_, fun h => ?_⟩ <;> first | (cases h; done) | (simp -implicitDefEqProofs only [h]; done) | (try simp -implicitDefEqProofs only [h]))
      | fail))
        exact hno _ (by
          simp [shapeOk, hn])
      have l1 := lenG (n := l.length) (c := 0) (by omega)
      by_cases hl : l.length = 0
      case neg =>
        (repeat' (first
      | refine Run.seq ?_
      | refine Run.skip ?_
      | refine Run.block ?_
      | refine Run.blk ?_
      | refine Run.scope ?_
      | refine Run.scp ?_
      | (refine Run.exit rfl ?_)
      | (refine Run.reg mixed ?_; simp -implicitDefEqProofs only [hi, n1, n2, hw, hc, e1, e2, e3, e4, e5, e6, e7, e8, e9, m4, m5, eqB hn, encs_len, l1, gtF (n := l.length) (c := 0) (by omega), rs_typing_validator_valid, Bool.not_eq_true', Bool.not_eq_false', go_sem, eq_self, Nat.reduceEqDiff, Nat.reduceBEq, Nat.reduceAdd, Nat.reduceLeDiff, reduceIte, reduceCtorEq, tysA, tyA, Ty.enc, Ty.encs])
      | (refine Run.condM ?_; simp -implicitDefEqProofs only [hi, n1, n2, hw, hc, e1, e2, e3, e4, e5, e6, e7, e8, e9, m4, m5, eqB hn, encs_len, l1, gtF (n := l.length) (c := 0) (by omega), rs_typing_validator_valid, Bool.not_eq_true', Bool.not_eq_false', go_sem, eq_self, Nat.reduceEqDiff, Nat.reduceBEq, Nat.reduceAdd, Nat.reduceLeDiff, reduceIte, reduceCtorEq, tysA, tyA, Ty.enc, Ty.encs])
      | (refine Run.retP g_typing_validator_valid (vb_le hj hij) ?_; (try simp -implicitDefEqProofs only [hi, n1, n2, hw, hc, e1, e2, e3, e4, e5, e6, e7, e8, e9, m4, m5, eqB hn, encs_len, l1, gtF (n := l.length) (c := 0) (by omega), rs_typing_validator_valid, Bool.not_eq_true', Bool.not_eq_false', go_sem, eq_self, Nat.reduceEqDiff, Nat.reduceBEq, Nat.reduceAdd, Nat.reduceLeDiff, reduceIte, reduceCtorEq, tysA, tyA, Ty.enc, Ty.encs]))
      | (refine xo_gs rfl (fun h => ?_) (fun h => ?_) <;> first | (cases h; done) | simp -implicitDefEqProofs only [hi, n1, n2, hw, hc, e1, e2, e3, e4, e5, e6, e7, e8, e9, m4, m5, eqB hn, encs_len, l1, gtF (n := l.length) (c := 0) (by omega), rs_typing_validator_valid, Bool.not_eq_true', Bool.not_eq_false', go_sem, eq_self, Nat.reduceEqDiff, Nat.reduceBEq, Nat.reduceAdd, Nat.reduceLeDiff, reduceIte, reduceCtorEq, tysA, tyA, Ty.enc, Ty.encs])
      | (refine ⟨fun h => ?_, fun h => ?_⟩ <;> first | (cases h; done) | (simp -implicitDefEqProofs only [h]; done) | (try simp -implicitDefEqProofs only [h]))
      | fail))
        exact hno _ (by
          simp [shapeOk, hl])
      (repeat' (first
      | refine Run.seq ?_
      | refine Run.skip ?_
      | refine Run.block ?_
      | refine Run.blk ?_
      | refine Run.scope ?_
      | refine Run.scp ?_
      | (refine Run.exit rfl ?_)
      | (refine Run.reg mixed ?_; simp -implicitDefEqProofs only [hi, n1, n2, hw, hc, e1, e2, e3, e4, e5, e6, e7, e8, e9, m4, m5, eqB hn, l1, gtG (n := l.length) (c := 0) (by omega), encs_len, rs_typing_validator_valid, Bool.not_eq_true', Bool.not_eq_false', go_sem, eq_self, Nat.reduceEqDiff, Nat.reduceBEq, Nat.reduceAdd, Nat.reduceLeDiff, reduceIte, reduceCtorEq, tysA, tyA, Ty.enc, Ty.encs])
      | (refine Run.condM ?_; simp -implicitDefEqProofs only [hi, n1, n2, hw, hc, e1, e2, e3, e4, e5, e6, e7, e8, e9, m4, m5, eqB hn, l1, gtG (n := l.length) (c := 0) (by omega), encs_len, rs_typing_validator_valid, Bool.not_eq_true', Bool.not_eq_false', go_sem, eq_self, Nat.reduceEqDiff, Nat.reduceBEq, Nat.reduceAdd, Nat.reduceLeDiff, reduceIte, reduceCtorEq, tysA, tyA, Ty.enc, Ty.encs])
      | (refine XCall.mk rfl hcall ?_; rintro _ _ ⟨L', rfl, rfl, hL'⟩; (try simp -implicitDefEqProofs only [hi, n1, n2, hw, hc, e1, e2, e3, e4, e5, e6, e7, e8, e9, m4, m5, eqB hn, l1, gtG (n := l.length) (c := 0) (by omega), encs_len, rs_typing_validator_valid, Bool.not_eq_true', Bool.not_eq_false', go_sem, eq_self, Nat.reduceEqDiff, Nat.reduceBEq, Nat.reduceAdd, Nat.reduceLeDiff, reduceIte, reduceCtorEq, tysA, tyA, Ty.enc, Ty.encs]))
      | (refine Run.retP g_typing_validator_valid (vb_le hj hij) ?_; (try simp -implicitDefEqProofs only [hi, n1, n2, hw, hc, e1, e2, e3, e4, e5, e6, e7, e8, e9, m4, m5, eqB hn, l1, gtG (n := l.length) (c := 0) (by omega), encs_len, rs_typing_validator_valid, Bool.not_eq_true', Bool.not_eq_false', go_sem, eq_self, Nat.reduceEqDiff, Nat.reduceBEq, Nat.reduceAdd, Nat.reduceLeDiff, reduceIte, reduceCtorEq, tysA, tyA, Ty.enc, Ty.encs]))
      | (refine xo_gs rfl (fun h => ?_) (fun h => ?_) <;> first | (cases h; done) | simp -implicitDefEqProofs only [hi, n1, n2, hw, hc, e1, e2, e3, e4, e5, e6, e7, e8, e9, m4, m5, eqB hn, l1, gtG (n := l.length) (c := 0) (by omega), encs_len, rs_typing_validator_valid, Bool.not_eq_true', Bool.not_eq_false', go_sem, eq_self, Nat.reduceEqDiff, Nat.reduceBEq, Nat.reduceAdd, Nat.reduceLeDiff, reduceIte, reduceCtorEq, tysA, tyA, Ty.enc, Ty.encs])
      | (refine ⟨fun h => ?_, fun h => ?_⟩ <;> first | (cases h; done) | (simp -implicitDefEqProofs only [h]; done) | (try simp -implicitDefEqProofs only [h]))
      | fail))
      have hshape : shapeOk data vars 3 nm l.length = true := by
        simp [shapeOk, hn, hl]
      exact hyes _ L' hshape (by simp) (fun h => hL' (by simpa using h))
    by_cases k4 : kd = 4
    · subst k4
      have e1 : ((4 : Int) == 1) = false := by decide
      have e2 : ((4 : Int) == 2) = false := by decide
      have e3 : ((4 : Int) == 3) = false := by decide
      have e4 : ((4 : Int) == 4) = true := by decide
      have e5 : ((4 : Int) == 5) = false := by decide
      have e6 : ((4 : Int) == 6) = false := by decide
      have e7 : ((4 : Int) == 7) = false := by decide
      have e8 : ((4 : Int) == 8) = false := by decide
      have e9 : ((4 : Int) == 9) = false := by decide
      have m4 : ((4 : Int) != 4) = false := by decide
      have m5 : ((4 : Int) != 5) = true := by decide
      by_cases hn : nm < 0
      ·
        (repeat' (first
      | refine Run.seq ?_
      | refine Run.skip ?_
      | refine Run.block ?_
      | refine Run.blk ?_
      | refine Run.scope ?_
      | refine Run.scp ?_
      | (refine Run.exit rfl ?_)
      | (refine Run.reg mixed ?_; simp -implicitDefEqProofs only [hi, n1, n2, hw, hc, e1, e2, e3, e4, e5, e6, e7, e8, e9, m4, m5, decide_eq_true hn, rs_typing_validator_valid, Bool.not_eq_true', Bool.not_eq_false', go_sem, eq_self, Nat.reduceEqDiff, Nat.reduceBEq, Nat.reduceAdd, Nat.reduceLeDiff, reduceIte, reduceCtorEq, tysA, tyA, Ty.enc, Ty.encs])
      | (refine Run.condM ?_; simp -implicitDefEqProofs only [hi, n1, n2, hw, hc, e1, e2, e3, e4, e5, e6, e7, e8, e9, m4, m5, decide_eq_true hn, rs_typing_validator_valid, Bool.not_eq_true', Bool.not_eq_false', go_sem, eq_self, Nat.reduceEqDiff, Nat.reduceBEq, Nat.reduceAdd, Nat.reduceLeDiff, reduceIte, reduceCtorEq, tysA, tyA, Ty.enc, Ty.encs])
      | (refine Run.retP g_typing_validator_valid (vb_le hj hij) ?_; (try simp -implicitDefEqProofs only [hi, n1, n2, hw, hc, e1, e2, e3, e4, e5, e6, e7, e8, e9, m4, m5, decide_eq_true hn, rs_typing_validator_valid, Bool.not_eq_true', Bool.not_eq_false', go_sem, eq_self, Nat.reduceEqDiff, Nat.reduceBEq, Nat.reduceAdd, Nat.reduceLeDiff, reduceIte, reduceCtorEq, tysA, tyA, Ty.enc, Ty.encs]))
      | (refine xo_gs rfl (fun h => ?_) (fun h => ?_) <;> first | (cases h; done) | simp -implicitDefEqProofs only [hi, n1, n2, hw, hc, e1, e2, e3, e4, e5, e6, e7, e8, e9, m4, m5, decide_eq_true hn, rs_typing_validator_valid, Bool.not_eq_true', Bool.not_eq_false', go_sem, eq_self, Nat.reduceEqDiff, Nat.reduceBEq, Nat.reduceAdd, Nat.reduceLeDiff, reduceIte, reduceCtorEq, tysA, tyA, Ty.enc, Ty.encs])
      | (refine ⟨fun h => ?_, fun h => ?_⟩ <;> first | (cases h; done) | (simp -implicitDefEqProofs only [h]; done) | (try simp -implicitDefEqProofs only [h]))
      | fail))
        exact hno _ (by
          have : ¬ (0 ≤ nm) := by omega
          simp [shapeOk, this])
      by_cases hn2 : vars ≤ nm
      ·
        (repeat' (first
      | refine Run.seq ?_
      | refine Run.skip ?_
      | refine Run.block ?_
      | refine Run.blk ?_
      | refine Run.scope ?_
      | refine Run.scp ?_
      | (refine Run.exit rfl ?_)
      | (refine Run.reg mixed ?_; simp -implicitDefEqProofs only [hi, n1, n2, hw, hc, e1, e2, e3, e4, e5, e6, e7, e8, e9, m4, m5, decide_eq_false hn, decide_eq_true hn2, rs_typing_validator_valid, Bool.not_eq_true', Bool.not_eq_false', go_sem, eq_self, Nat.reduceEqDiff, Nat.reduceBEq, Nat.reduceAdd, Nat.reduceLeDiff, reduceIte, reduceCtorEq, tysA, tyA, Ty.enc, Ty.encs])
      | (refine Run.condM ?_; simp -implicitDefEqProofs only [hi, n1, n2, hw, hc, e1, e2, e3, e4, e5, e6, e7, e8, e9, m4, m5, decide_eq_false hn, decide_eq_true hn2, rs_typing_validator_valid, Bool.not_eq_true', Bool.not_eq_false', go_sem, eq_self, Nat.reduceEqDiff, Nat.reduceBEq, Nat.reduceAdd, Nat.reduceLeDiff, reduceIte, reduceCtorEq, tysA, tyA, Ty.enc, Ty.encs])
      | (refine Run.retP g_typing_validator_valid (vb_le hj hij) ?_; (try simp -implicitDefEqProofs only [hi, n1, n2, hw, hc, e1, e2, e3, e4, e5, e6, e7, e8, e9, m4, m5, decide_eq_false hn, decide_eq_true hn2, rs_typing_validator_valid, Bool.not_eq_true', Bool.not_eq_false', go_sem, eq_self, Nat.reduceEqDiff, Nat.reduceBEq, Nat.reduceAdd, Nat.reduceLeDiff, reduceIte, reduceCtorEq, tysA, tyA, Ty.enc, Ty.encs]))
      | (refine xo_gs rfl (fun h => ?_) (fun h => ?_) <;> first | (cases h; done) | simp -implicitDefEqProofs only [hi, n1, n2, hw, hc, e1, e2, e3, e4, e5, e6, e7, e8, e9, m4, m5, decide_eq_false hn, decide_eq_true hn2, rs_typing_validator_valid, Bool.not_eq_true', Bool.not_eq_false', go_sem, eq_self, Nat.reduceEqDiff, Nat.reduceBEq, Nat.reduceAdd, Nat.reduceLeDiff, reduceIte, reduceCtorEq, tysA, tyA, Ty.enc, Ty.encs])
      | (refine ⟨fun h => ?_, fun h => ?_⟩ <;> first | (cases h; done) | (simp -implicitDefEqProofs only [h]; done) | (try simp -implicitDefEqProofs only [h]))
      | fail))
        exact hno _ (by
          have : ¬ (nm < vars) := by omega
          simp [shapeOk, this])
      have l1 := lenG (n := l.length) (c := 0) (by omega)
      by_cases hl : l.length = 0
      case neg =>
        (repeat' (first
      | refine Run.seq ?_
      | refine Run.skip ?_
      | refine Run.block ?_
      | refine Run.blk ?_
      | refine Run.scope ?_
      | refine Run.scp ?_
      | (refine Run.exit rfl ?_)
      | (refine Run.reg mixed ?_; simp -implicitDefEqProofs only [hi, n1, n2, hw, hc, e1, e2, e3, e4, e5, e6, e7, e8, e9, m4, m5, decide_eq_false hn, decide_eq_false hn2, encs_len, l1, gtF (n := l.length) (c := 0) (by omega), rs_typing_validator_valid, Bool.not_eq_true', Bool.not_eq_false', go_sem, eq_self, Nat.reduceEqDiff, Nat.reduceBEq, Nat.reduceAdd, Nat.reduceLeDiff, reduceIte, reduceCtorEq, tysA, tyA, Ty.enc, Ty.encs])
      | (refine Run.condM ?_; simp -implicitDefEqProofs only [hi, n1, n2, hw, hc, e1, e2, e3, e4, e5, e6, e7, e8, e9, m4, m5, decide_eq_false hn, decide_eq_false hn2, encs_len, l1, gtF (n := l.length) (c := 0) (by omega), rs_typing_validator_valid, Bool.not_eq_true', Bool.not_eq_false', go_sem, eq_self, Nat.reduceEqDiff, Nat.reduceBEq, Nat.reduceAdd, Nat.reduceLeDiff, reduceIte, reduceCtorEq, tysA, tyA, Ty.enc, Ty.encs])
      | (refine Run.retP g_typing_validator_valid (vb_le hj hij) ?_; (try simp -implicitDefEqProofs only [hi, n1, n2, hw, hc, e1, e2, e3, e4, e5, e6, e7, e8, e9, m4, m5, decide_eq_false hn, decide_eq_false hn2, encs_len, l1, gtF (n := l.length) (c := 0) (by omega), rs_typing_validator_valid, Bool.not_eq_true', Bool.not_eq_false', go_sem, eq_self, Nat.reduceEqDiff, Nat.reduceBEq, Nat.reduceAdd, Nat.reduceLeDiff, reduceIte, reduceCtorEq, tysA, tyA, Ty.enc, Ty.encs]))
      | (refine xo_gs rfl (fun h => ?_) (fun h => ?_) <;> first | (cases h; done) | simp -implicitDefEqProofs only [hi, n1, n2, hw, hc, e1, e2, e3, e4, e5, e6, e7, e8, e9, m4, m5, decide_eq_false hn, decide_eq_false hn2, encs_len, l1, gtF (n := l.length) (c := 0) (by omega), rs_typing_validator_valid, Bool.not_eq_true', Bool.not_eq_false', go_sem, eq_self, Nat.reduceEqDiff, Nat.reduceBEq, Nat.reduceAdd, Nat.reduceLeDiff, reduceIte, reduceCtorEq, tysA, tyA, Ty.enc, Ty.encs])
      | (refine ⟨fun h => ?_, fun h => ?_⟩ <;> first | (cases h; done) | (simp -implicitDefEqProofs only [h]; done) | (try simp -implicitDefEqProofs only [h]))
      | fail))
        exact hno _ (by
          simp [shapeOk, hl])
      (repeat' (first
      | refine Run.seq ?_
      | refine Run.skip ?_
      | refine Run.block ?_
      | refine Run.blk ?_
      | refine Run.scope ?_
      | refine Run.scp ?_
      | (refine Run.exit rfl ?_)
      | (refine Run.reg mixed ?_; simp -implicitDefEqProofs only [hi, n1, n2, hw, hc, e1, e2, e3, e4, e5, e6, e7, e8, e9, m4, m5, decide_eq_false hn, decide_eq_false hn2, l1, gtG (n := l.length) (c := 0) (by omega), encs_len, rs_typing_validator_valid, Bool.not_eq_true', Bool.not_eq_false', go_sem, eq_self, Nat.reduceEqDiff, Nat.reduceBEq, Nat.reduceAdd, Nat.reduceLeDiff, reduceIte, reduceCtorEq, tysA, tyA, Ty.enc, Ty.encs])
      | (refine Run.condM ?_; simp -implicitDefEqProofs only [hi, n1, n2, hw, hc, e1, e2, e3, e4, e5, e6, e7, e8, e9, m4, m5, decide_eq_false hn, decide_eq_false hn2, l1, gtG (n := l.length) (c := 0) (by omega), encs_len, rs_typing_validator_valid, Bool.not_eq_true', Bool.not_eq_false', go_sem, eq_self, Nat.reduceEqDiff, Nat.reduceBEq, Nat.reduceAdd, Nat.reduceLeDiff, reduceIte, reduceCtorEq, tysA, tyA, Ty.enc, Ty.encs])
      | (refine XCall.mk rfl hcall ?_; rintro _ _ ⟨L', rfl, rfl, hL'⟩; (try simp -implicitDefEqProofs only [hi, n1, n2, hw, hc, e1, e2, e3, e4, e5, e6, e7, e8, e9, m4, m5, decide_eq_false hn, decide_eq_false hn2, l1, gtG (n := l.length) (c := 0) (by omega), encs_len, rs_typing_validator_valid, Bool.not_eq_true', Bool.not_eq_false', go_sem, eq_self, Nat.reduceEqDiff, Nat.reduceBEq, Nat.reduceAdd, Nat.reduceLeDiff, reduceIte, reduceCtorEq, tysA, tyA, Ty.enc, Ty.encs]))
      | (refine Run.retP g_typing_validator_valid (vb_le hj hij) ?_; (try simp -implicitDefEqProofs only [hi, n1, n2, hw, hc, e1, e2, e3, e4, e5, e6, e7, e8, e9, m4, m5, decide_eq_false hn, decide_eq_false hn2, l1, gtG (n := l.length) (c := 0) (by omega), encs_len, rs_typing_validator_valid, Bool.not_eq_true', Bool.not_eq_false', go_sem, eq_self, Nat.reduceEqDiff, Nat.reduceBEq, Nat.reduceAdd, Nat.reduceLeDiff, reduceIte, reduceCtorEq, tysA, tyA, Ty.enc, Ty.encs]))
      | (refine xo_gs rfl (fun h => ?_) (fun h => ?_) <;> first | (cases h; done) | simp -implicitDefEqProofs only [hi, n1, n2, hw, hc, e1, e2, e3, e4, e5, e6, e7, e8, e9, m4, m5, decide_eq_false hn, decide_eq_false hn2, l1, gtG (n := l.length) (c := 0) (by omega), encs_len, rs_typing_validator_valid, Bool.not_eq_true', Bool.not_eq_false', go_sem, eq_self, Nat.reduceEqDiff, Nat.reduceBEq, Nat.reduceAdd, Nat.reduceLeDiff, reduceIte, reduceCtorEq, tysA, tyA, Ty.enc, Ty.encs])
      | (refine ⟨fun h => ?_, fun h => ?_⟩ <;> first | (cases h; done) | (simp -implicitDefEqProofs only [h]; done) | (try simp -implicitDefEqProofs only [h]))
      | fail))
      have hshape : shapeOk data vars 4 nm l.length = true := by
        have a1 : 0 ≤ nm := by omega
        have a2 : nm < vars := by omega
        simp [shapeOk, a1, a2, hl]
      exact hyes _ L' hshape (by simp) (fun h => hL' (by simpa using h))
    by_cases k5 : kd = 5
    · subst k5
      have e1 : ((5 : Int) == 1) = false := by decide
      have e2 : ((5 : Int) == 2) = false := by decide
      have e3 : ((5 : Int) == 3) = false := by decide
      have e4 : ((5 : Int) == 4) = false := by decide
      have e5 : ((5 : Int) == 5) = true := by decide
      have e6 : ((5 : Int) == 6) = false := by decide
      have e7 : ((5 : Int) == 7) = false := by decide
      have e8 : ((5 : Int) == 8) = false := by decide
      have e9 : ((5 : Int) == 9) = false := by decide
      have m4 : ((5 : Int) != 4) = true := by decide
      have m5 : ((5 : Int) != 5) = false := by decide
      by_cases hn : nm < 0
      ·
        (repeat' (first
      | refine Run.seq ?_
      | refine Run.skip ?_
      | refine Run.block ?_
      | refine Run.blk ?_
      | refine Run.scope ?_
      | refine Run.scp ?_
      | (refine Run.exit rfl ?_)
      | (refine Run.reg mixed ?_; simp -implicitDefEqProofs only [hi, n1, n2, hw, hc, e1, e2, e3, e4, e5, e6, e7, e8, e9, m4, m5, decide_eq_true hn, rs_typing_validator_valid, Bool.not_eq_true', Bool.not_eq_false', go_sem, eq_self, Nat.reduceEqDiff, Nat.reduceBEq, Nat.reduceAdd, Nat.reduceLeDiff, reduceIte, reduceCtorEq, tysA, tyA, Ty.enc, Ty.encs])
      | (refine Run.condM ?_; simp -implicitDefEqProofs only [hi, n1, n2, hw, hc, e1, e2, e3, e4, e5, e6, e7, e8, e9, m4, m5, decide_eq_true hn, rs_typing_validator_valid, Bool.not_eq_true', Bool.not_eq_false', go_sem, eq_self, Nat.reduceEqDiff, Nat.reduceBEq, Nat.reduceAdd, Nat.reduceLeDiff, reduceIte, reduceCtorEq, tysA, tyA, Ty.enc, Ty.encs])
      | (refine Run.retP g_typing_validator_valid (vb_le hj hij) ?_; (try simp -implicitDefEqProofs only [hi, n1, n2, hw, hc, e1, e2, e3, e4, e5, e6, e7, e8, e9, m4, m5, decide_eq_true hn, rs_typing_validator_valid, Bool.not_eq_true', Bool.not_eq_false', go_sem, eq_self, Nat.reduceEqDiff, Nat.reduceBEq, Nat.reduceAdd, Nat.reduceLeDiff, reduceIte, reduceCtorEq, tysA, tyA, Ty.enc, Ty.encs]))
      | (refine xo_gs rfl (fun h => ?_) (fun h => ?_) <;> first | (cases h; done) | simp -implicitDefEqProofs only [hi, n1, n2, hw, hc, e1, e2, e3, e4, e5, e6, e7, e8, e9, m4, m5, decide_eq_true hn, rs_typing_validator_valid, Bool.not_eq_true', Bool.not_eq_false', go_sem, eq_self, Nat.reduceEqDiff, Nat.reduceBEq, Nat.reduceAdd, Nat.reduceLeDiff, reduceIte, reduceCtorEq, tysA, tyA, Ty.enc, Ty.encs])
      | (refine ⟨fun h => ?_, fun h => ?_⟩ <;> first | (cases h; done) | (simp -implicitDefEqProofs only [h]; done) | (try simp -implicitDefEqProofs only [h]))
      | fail))
        exact hno _ (by
          have : ¬ (0 ≤ nm) := by omega
          simp [shapeOk, this])
      obtain ⟨p, rfl⟩ : ∃ p : Nat, nm = p := ⟨nm.toNat, by omega⟩
      by_cases hp : p < data.length
      case neg =>
        have g1 : decide ((data.length : Int) ≤ (p : Int)) = true := by simp; omega
        (repeat' (first
      | refine Run.seq ?_
      | refine Run.skip ?_
      | refine Run.block ?_
      | refine Run.blk ?_
      | refine Run.scope ?_
      | refine Run.scp ?_
      | (refine Run.exit rfl ?_)
      | (refine Run.reg mixed ?_; simp -implicitDefEqProofs only [hi, n1, n2, hw, hc, e1, e2, e3, e4, e5, e6, e7, e8, e9, m4, m5, decide_eq_false hn, List.length_map, g1, rs_typing_validator_valid, Bool.not_eq_true', Bool.not_eq_false', go_sem, eq_self, Nat.reduceEqDiff, Nat.reduceBEq, Nat.reduceAdd, Nat.reduceLeDiff, reduceIte, reduceCtorEq, tysA, tyA, Ty.enc, Ty.encs])
      | (refine Run.condM ?_; simp -implicitDefEqProofs only [hi, n1, n2, hw, hc, e1, e2, e3, e4, e5, e6, e7, e8, e9, m4, m5, decide_eq_false hn, List.length_map, g1, rs_typing_validator_valid, Bool.not_eq_true', Bool.not_eq_false', go_sem, eq_self, Nat.reduceEqDiff, Nat.reduceBEq, Nat.reduceAdd, Nat.reduceLeDiff, reduceIte, reduceCtorEq, tysA, tyA, Ty.enc, Ty.encs])
      | (refine Run.retP g_typing_validator_valid (vb_le hj hij) ?_; (try simp -implicitDefEqProofs only [hi, n1, n2, hw, hc, e1, e2, e3, e4, e5, e6, e7, e8, e9, m4, m5, decide_eq_false hn, List.length_map, g1, rs_typing_validator_valid, Bool.not_eq_true', Bool.not_eq_false', go_sem, eq_self, Nat.reduceEqDiff, Nat.reduceBEq, Nat.reduceAdd, Nat.reduceLeDiff, reduceIte, reduceCtorEq, tysA, tyA, Ty.enc, Ty.encs]))
      | (refine xo_gs rfl (fun h => ?_) (fun h => ?_) <;> first | (cases h; done) | simp -implicitDefEqProofs only [hi, n1, n2, hw, hc, e1, e2, e3, e4, e5, e6, e7, e8, e9, m4, m5, decide_eq_false hn, List.length_map, g1, rs_typing_validator_valid, Bool.not_eq_true', Bool.not_eq_false', go_sem, eq_self, Nat.reduceEqDiff, Nat.reduceBEq, Nat.reduceAdd, Nat.reduceLeDiff, reduceIte, reduceCtorEq, tysA, tyA, Ty.enc, Ty.encs])
      | (refine ⟨fun h => ?_, fun h => ?_⟩ <;> first | (cases h; done) | (simp -implicitDefEqProofs only [h]; done) | (try simp -implicitDefEqProofs only [h]))
      | fail))
        exact hno _ (by
          have : data[p]? = none := List.getElem?_eq_none (by omega)
          simp [shapeOk, this])
      have g1 : decide ((data.length : Int) ≤ (p : Int)) = false := by simp; omega
      obtain ⟨d, hd⟩ := ex_at hp
      have hd' := dats_at hd
      by_cases q1 : (l.length : Int) < d.vars
      ·
        (repeat' (first
      | refine Run.seq ?_
      | refine Run.skip ?_
      | refine Run.block ?_
      | refine Run.blk ?_
      | refine Run.scope ?_
      | refine Run.scp ?_
      | (refine Run.exit rfl ?_)
      | (refine Run.reg mixed ?_; simp -implicitDefEqProofs only [hi, n1, n2, hw, hc, e1, e2, e3, e4, e5, e6, e7, e8, e9, m4, m5, decide_eq_false hn, List.length_map, g1, hd', encs_len, lenF q1, rs_typing_validator_valid, Bool.not_eq_true', Bool.not_eq_false', go_sem, eq_self, Nat.reduceEqDiff, Nat.reduceBEq, Nat.reduceAdd, Nat.reduceLeDiff, reduceIte, reduceCtorEq, tysA, tyA, Ty.enc, Ty.encs])
      | (refine Run.condM ?_; simp -implicitDefEqProofs only [hi, n1, n2, hw, hc, e1, e2, e3, e4, e5, e6, e7, e8, e9, m4, m5, decide_eq_false hn, List.length_map, g1, hd', encs_len, lenF q1, rs_typing_validator_valid, Bool.not_eq_true', Bool.not_eq_false', go_sem, eq_self, Nat.reduceEqDiff, Nat.reduceBEq, Nat.reduceAdd, Nat.reduceLeDiff, reduceIte, reduceCtorEq, tysA, tyA, Ty.enc, Ty.encs])
      | (refine Run.retP g_typing_validator_valid (vb_le hj hij) ?_; (try simp -implicitDefEqProofs only [hi, n1, n2, hw, hc, e1, e2, e3, e4, e5, e6, e7, e8, e9, m4, m5, decide_eq_false hn, List.length_map, g1, hd', encs_len, lenF q1, rs_typing_validator_valid, Bool.not_eq_true', Bool.not_eq_false', go_sem, eq_self, Nat.reduceEqDiff, Nat.reduceBEq, Nat.reduceAdd, Nat.reduceLeDiff, reduceIte, reduceCtorEq, tysA, tyA, Ty.enc, Ty.encs]))
      | (refine xo_gs rfl (fun h => ?_) (fun h => ?_) <;> first | (cases h; done) | simp -implicitDefEqProofs only [hi, n1, n2, hw, hc, e1, e2, e3, e4, e5, e6, e7, e8, e9, m4, m5, decide_eq_false hn, List.length_map, g1, hd', encs_len, lenF q1, rs_typing_validator_valid, Bool.not_eq_true', Bool.not_eq_false', go_sem, eq_self, Nat.reduceEqDiff, Nat.reduceBEq, Nat.reduceAdd, Nat.reduceLeDiff, reduceIte, reduceCtorEq, tysA, tyA, Ty.enc, Ty.encs])
      | (refine ⟨fun h => ?_, fun h => ?_⟩ <;> first | (cases h; done) | (simp -implicitDefEqProofs only [h]; done) | (try simp -implicitDefEqProofs only [h]))
      | fail))
        exact hno _ (by
          have : ¬ ((l.length : Int) = d.vars) := by omega
          simp [shapeOk, hd, this])
      by_cases q2 : d.vars < (l.length : Int)
      ·
        (repeat' (first
      | refine Run.seq ?_
      | refine Run.skip ?_
      | refine Run.block ?_
      | refine Run.blk ?_
      | refine Run.scope ?_
      | refine Run.scp ?_
      | (refine Run.exit rfl ?_)
      | (refine Run.reg mixed ?_; simp -implicitDefEqProofs only [hi, n1, n2, hw, hc, e1, e2, e3, e4, e5, e6, e7, e8, e9, m4, m5, decide_eq_false hn, List.length_map, g1, hd', encs_len, lenG q1, gtF q2, rs_typing_validator_valid, Bool.not_eq_true', Bool.not_eq_false', go_sem, eq_self, Nat.reduceEqDiff, Nat.reduceBEq, Nat.reduceAdd, Nat.reduceLeDiff, reduceIte, reduceCtorEq, tysA, tyA, Ty.enc, Ty.encs])
      | (refine Run.condM ?_; simp -implicitDefEqProofs only [hi, n1, n2, hw, hc, e1, e2, e3, e4, e5, e6, e7, e8, e9, m4, m5, decide_eq_false hn, List.length_map, g1, hd', encs_len, lenG q1, gtF q2, rs_typing_validator_valid, Bool.not_eq_true', Bool.not_eq_false', go_sem, eq_self, Nat.reduceEqDiff, Nat.reduceBEq, Nat.reduceAdd, Nat.reduceLeDiff, reduceIte, reduceCtorEq, tysA, tyA, Ty.enc, Ty.encs])
      | (refine Run.retP g_typing_validator_valid (vb_le hj hij) ?_; (try simp -implicitDefEqProofs only [hi, n1, n2, hw, hc, e1, e2, e3, e4, e5, e6, e7, e8, e9, m4, m5, decide_eq_false hn, List.length_map, g1, hd', encs_len, lenG q1, gtF q2, rs_typing_validator_valid, Bool.not_eq_true', Bool.not_eq_false', go_sem, eq_self, Nat.reduceEqDiff, Nat.reduceBEq, Nat.reduceAdd, Nat.reduceLeDiff, reduceIte, reduceCtorEq, tysA, tyA, Ty.enc, Ty.encs]))
      | (refine xo_gs rfl (fun h => ?_) (fun h => ?_) <;> first | (cases h; done) | simp -implicitDefEqProofs only [hi, n1, n2, hw, hc, e1, e2, e3, e4, e5, e6, e7, e8, e9, m4, m5, decide_eq_false hn, List.length_map, g1, hd', encs_len, lenG q1, gtF q2, rs_typing_validator_valid, Bool.not_eq_true', Bool.not_eq_false', go_sem, eq_self, Nat.reduceEqDiff, Nat.reduceBEq, Nat.reduceAdd, Nat.reduceLeDiff, reduceIte, reduceCtorEq, tysA, tyA, Ty.enc, Ty.encs])
      | (refine ⟨fun h => ?_, fun h => ?_⟩ <;> first | (cases h; done) | (simp -implicitDefEqProofs only [h]; done) | (try simp -implicitDefEqProofs only [h]))
      | fail))
        exact hno _ (by
          have : ¬ ((l.length : Int) = d.vars) := by omega
          simp [shapeOk, hd, this])
      (repeat' (first
      | refine Run.seq ?_
      | refine Run.skip ?_
      | refine Run.block ?_
      | refine Run.blk ?_
      | refine Run.scope ?_
      | refine Run.scp ?_
      | (refine Run.exit rfl ?_)
      | (refine Run.reg mixed ?_; simp -implicitDefEqProofs only [hi, n1, n2, hw, hc, e1, e2, e3, e4, e5, e6, e7, e8, e9, m4, m5, decide_eq_false hn, List.length_map, g1, hd', lenG q1, gtG q2, encs_len, rs_typing_validator_valid, Bool.not_eq_true', Bool.not_eq_false', go_sem, eq_self, Nat.reduceEqDiff, Nat.reduceBEq, Nat.reduceAdd, Nat.reduceLeDiff, reduceIte, reduceCtorEq, tysA, tyA, Ty.enc, Ty.encs])
      | (refine Run.condM ?_; simp -implicitDefEqProofs only [hi, n1, n2, hw, hc, e1, e2, e3, e4, e5, e6, e7, e8, e9, m4, m5, decide_eq_false hn, List.length_map, g1, hd', lenG q1, gtG q2, encs_len, rs_typing_validator_valid, Bool.not_eq_true', Bool.not_eq_false', go_sem, eq_self, Nat.reduceEqDiff, Nat.reduceBEq, Nat.reduceAdd, Nat.reduceLeDiff, reduceIte, reduceCtorEq, tysA, tyA, Ty.enc, Ty.encs])
      | (refine XCall.mk rfl hcall ?_; rintro _ _ ⟨L', rfl, rfl, hL'⟩; (try simp -implicitDefEqProofs only [hi, n1, n2, hw, hc, e1, e2, e3, e4, e5, e6, e7, e8, e9, m4, m5, decide_eq_false hn, List.length_map, g1, hd', lenG q1, gtG q2, encs_len, rs_typing_validator_valid, Bool.not_eq_true', Bool.not_eq_false', go_sem, eq_self, Nat.reduceEqDiff, Nat.reduceBEq, Nat.reduceAdd, Nat.reduceLeDiff, reduceIte, reduceCtorEq, tysA, tyA, Ty.enc, Ty.encs]))
      | (refine Run.retP g_typing_validator_valid (vb_le hj hij) ?_; (try simp -implicitDefEqProofs only [hi, n1, n2, hw, hc, e1, e2, e3, e4, e5, e6, e7, e8, e9, m4, m5, decide_eq_false hn, List.length_map, g1, hd', lenG q1, gtG q2, encs_len, rs_typing_validator_valid, Bool.not_eq_true', Bool.not_eq_false', go_sem, eq_self, Nat.reduceEqDiff, Nat.reduceBEq, Nat.reduceAdd, Nat.reduceLeDiff, reduceIte, reduceCtorEq, tysA, tyA, Ty.enc, Ty.encs]))
      | (refine xo_gs rfl (fun h => ?_) (fun h => ?_) <;> first | (cases h; done) | simp -implicitDefEqProofs only [hi, n1, n2, hw, hc, e1, e2, e3, e4, e5, e6, e7, e8, e9, m4, m5, decide_eq_false hn, List.length_map, g1, hd', lenG q1, gtG q2, encs_len, rs_typing_validator_valid, Bool.not_eq_true', Bool.not_eq_false', go_sem, eq_self, Nat.reduceEqDiff, Nat.reduceBEq, Nat.reduceAdd, Nat.reduceLeDiff, reduceIte, reduceCtorEq, tysA, tyA, Ty.enc, Ty.encs])
      | (refine ⟨fun h => ?_, fun h => ?_⟩ <;> first | (cases h; done) | (simp -implicitDefEqProofs only [h]; done) | (try simp -implicitDefEqProofs only [h]))
      | fail))
      have hshape : shapeOk data vars 5 (p : Int) l.length = true := by
        have : (l.length : Int) = d.vars := by omega
        simp [shapeOk, hd, this]
      exact hyes _ L' hshape (by simp) (fun h => hL' (by simpa using h))
    by_cases k6 : kd = 6
    · subst k6
      have e1 : ((6 : Int) == 1) = false := by decide
      have e2 : ((6 : Int) == 2) = false := by decide
      have e3 : ((6 : Int) == 3) = false := by decide
      have e4 : ((6 : Int) == 4) = false := by decide
      have e5 : ((6 : Int) == 5) = false := by decide
      have e6 : ((6 : Int) == 6) = true := by decide
      have e7 : ((6 : Int) == 7) = false := by decide
      have e8 : ((6 : Int) == 8) = false := by decide
      have e9 : ((6 : Int) == 9) = false := by decide
      have m4 : ((6 : Int) != 4) = true := by decide
      have m5 : ((6 : Int) != 5) = true := by decide
      by_cases hn : nm = 0
      case neg =>
        (repeat' (first
      | refine Run.seq ?_
      | refine Run.skip ?_
      | refine Run.block ?_
      | refine Run.blk ?_
      | refine Run.scope ?_
      | refine Run.scp ?_
      | (refine Run.exit rfl ?_)
      | (refine Run.reg mixed ?_; simp -implicitDefEqProofs only [hi, n1, n2, hw, hc, e1, e2, e3, e4, e5, e6, e7, e8, e9, m4, m5, neB hn, rs_typing_validator_valid, Bool.not_eq_true', Bool.not_eq_false', go_sem, eq_self, Nat.reduceEqDiff, Nat.reduceBEq, Nat.reduceAdd, Nat.reduceLeDiff, reduceIte, reduceCtorEq, tysA, tyA, Ty.enc, Ty.encs])
      | (refine Run.condM ?_; simp -implicitDefEqProofs only [hi, n1, n2, hw, hc, e1, e2, e3, e4, e5, e6, e7, e8, e9, m4, m5, neB hn, rs_typing_validator_valid, Bool.not_eq_true', Bool.not_eq_false', go_sem, eq_self, Nat.reduceEqDiff, Nat.reduceBEq, Nat.reduceAdd, Nat.reduceLeDiff, reduceIte, reduceCtorEq, tysA, tyA, Ty.enc, Ty.encs])
      | (refine Run.retP g_typing_validator_valid (vb_le hj hij) ?_; (try simp -implicitDefEqProofs only [hi, n1, n2, hw, hc, e1, e2, e3, e4, e5, e6, e7, e8, e9, m4, m5, neB hn, rs_typing_validator_valid, Bool.not_eq_true', Bool.not_eq_false', go_sem, eq_self, Nat.reduceEqDiff, Nat.reduceBEq, Nat.reduceAdd, Nat.reduceLeDiff, reduceIte, reduceCtorEq, tysA, tyA, Ty.enc, Ty.encs]))
      | (refine xo_gs rfl (fun h => ?_) (fun h => ?_) <;> first | (cases h; done) | simp -implicitDefEqProofs only [hi, n1, n2, hw, hc, e1, e2, e3, e4, e5, e6, e7, e8, e9, m4, m5, neB hn, rs_typing_validator_valid, Bool.not_eq_true', Bool.not_eq_false', go_sem, eq_self, Nat.reduceEqDiff, Nat.reduceBEq, Nat.reduceAdd, Nat.reduceLeDiff, reduceIte, reduceCtorEq, tysA, tyA, Ty.enc, Ty.encs])
      | (refine ⟨fun h => ?_, fun h => ?_⟩ <;> first | (cases h; done) | (simp -implicitDefEqProofs only [h]; done) | (try simp -implicitDefEqProofs only [h]))
      | fail))
        exact hno _ (by
          simp [shapeOk, hn])
      by_cases q1 : (l.length : Int) < 2
      ·
        (repeat' (first
      | refine Run.seq ?_
      | refine Run.skip ?_
      | refine Run.block ?_
      | refine Run.blk ?_
      | refine Run.scope ?_
      | refine Run.scp ?_
      | (refine Run.exit rfl ?_)
      | (refine Run.reg mixed ?_; simp -implicitDefEqProofs only [hi, n1, n2, hw, hc, e1, e2, e3, e4, e5, e6, e7, e8, e9, m4, m5, eqB hn, encs_len, lenF q1, rs_typing_validator_valid, Bool.not_eq_true', Bool.not_eq_false', go_sem, eq_self, Nat.reduceEqDiff, Nat.reduceBEq, Nat.reduceAdd, Nat.reduceLeDiff, reduceIte, reduceCtorEq, tysA, tyA, Ty.enc, Ty.encs])
      | (refine Run.condM ?_; simp -implicitDefEqProofs only [hi, n1, n2, hw, hc, e1, e2, e3, e4, e5, e6, e7, e8, e9, m4, m5, eqB hn, encs_len, lenF q1, rs_typing_validator_valid, Bool.not_eq_true', Bool.not_eq_false', go_sem, eq_self, Nat.reduceEqDiff, Nat.reduceBEq, Nat.reduceAdd, Nat.reduceLeDiff, reduceIte, reduceCtorEq, tysA, tyA, Ty.enc, Ty.encs])
      | (refine Run.retP g_typing_validator_valid (vb_le hj hij) ?_; (try simp -implicitDefEqProofs only [hi, n1, n2, hw, hc, e1, e2, e3, e4, e5, e6, e7, e8, e9, m4, m5, eqB hn, encs_len, lenF q1, rs_typing_validator_valid, Bool.not_eq_true', Bool.not_eq_false', go_sem, eq_self, Nat.reduceEqDiff, Nat.reduceBEq, Nat.reduceAdd, Nat.reduceLeDiff, reduceIte, reduceCtorEq, tysA, tyA, Ty.enc, Ty.encs]))
      | (refine xo_gs rfl (fun h => ?_) (fun h => ?_) <;> first | (cases h; done) | simp -implicitDefEqProofs only [hi, n1, n2, hw, hc, e1, e2, e3, e4, e5, e6, e7, e8, e9, m4, m5, eqB hn, encs_len, lenF q1, rs_typing_validator_valid, Bool.not_eq_true', Bool.not_eq_false', go_sem, eq_self, Nat.reduceEqDiff, Nat.reduceBEq, Nat.reduceAdd, Nat.reduceLeDiff, reduceIte, reduceCtorEq, tysA, tyA, Ty.enc, Ty.encs])
      | (refine ⟨fun h => ?_, fun h => ?_⟩ <;> first | (cases h; done) | (simp -implicitDefEqProofs only [h]; done) | (try simp -implicitDefEqProofs only [h]))
      | fail))
        exact hno _ (by
          have : ¬ (2 ≤ l.length) := by omega
          simp [shapeOk, this])
      by_cases q2 : 6 < (l.length : Int)
      ·
        (repeat' (first
      | refine Run.seq ?_
      | refine Run.skip ?_
      | refine Run.block ?_
      | refine Run.blk ?_
      | refine Run.scope ?_
      | refine Run.scp ?_
      | (refine Run.exit rfl ?_)
      | (refine Run.reg mixed ?_; simp -implicitDefEqProofs only [hi, n1, n2, hw, hc, e1, e2, e3, e4, e5, e6, e7, e8, e9, m4, m5, eqB hn, encs_len, lenG q1, gtF q2, rs_typing_validator_valid, Bool.not_eq_true', Bool.not_eq_false', go_sem, eq_self, Nat.reduceEqDiff, Nat.reduceBEq, Nat.reduceAdd, Nat.reduceLeDiff, reduceIte, reduceCtorEq, tysA, tyA, Ty.enc, Ty.encs])
      | (refine Run.condM ?_; simp -implicitDefEqProofs only [hi, n1, n2, hw, hc, e1, e2, e3, e4, e5, e6, e7, e8, e9, m4, m5, eqB hn, encs_len, lenG q1, gtF q2, rs_typing_validator_valid, Bool.not_eq_true', Bool.not_eq_false', go_sem, eq_self, Nat.reduceEqDiff, Nat.reduceBEq, Nat.reduceAdd, Nat.reduceLeDiff, reduceIte, reduceCtorEq, tysA, tyA, Ty.enc, Ty.encs])
      | (refine Run.retP g_typing_validator_valid (vb_le hj hij) ?_; (try simp -implicitDefEqProofs only [hi, n1, n2, hw, hc, e1, e2, e3, e4, e5, e6, e7, e8, e9, m4, m5, eqB hn, encs_len, lenG q1, gtF q2, rs_typing_validator_valid, Bool.not_eq_true', Bool.not_eq_false', go_sem, eq_self, Nat.reduceEqDiff, Nat.reduceBEq, Nat.reduceAdd, Nat.reduceLeDiff, reduceIte, reduceCtorEq, tysA, tyA, Ty.enc, Ty.encs]))
      | (refine xo_gs rfl (fun h => ?_) (fun h => ?_) <;> first | (cases h; done) | simp -implicitDefEqProofs only [hi, n1, n2, hw, hc, e1, e2, e3, e4, e5, e6, e7, e8, e9, m4, m5, eqB hn, encs_len, lenG q1, gtF q2, rs_typing_validator_valid, Bool.not_eq_true', Bool.not_eq_false', go_sem, eq_self, Nat.reduceEqDiff, Nat.reduceBEq, Nat.reduceAdd, Nat.reduceLeDiff, reduceIte, reduceCtorEq, tysA, tyA, Ty.enc, Ty.encs])
      | (refine ⟨fun h => ?_, fun h => ?_⟩ <;> first | (cases h; done) | (simp -implicitDefEqProofs only [h]; done) | (try simp -implicitDefEqProofs only [h]))
      | fail))
        exact hno _ (by
          have : ¬ (l.length ≤ 6) := by omega
          simp [shapeOk, this])
      (repeat' (first
      | refine Run.seq ?_
      | refine Run.skip ?_
      | refine Run.block ?_
      | refine Run.blk ?_
      | refine Run.scope ?_
      | refine Run.scp ?_
      | (refine Run.exit rfl ?_)
      | (refine Run.reg mixed ?_; simp -implicitDefEqProofs only [hi, n1, n2, hw, hc, e1, e2, e3, e4, e5, e6, e7, e8, e9, m4, m5, eqB hn, lenG q1, gtG q2, encs_len, rs_typing_validator_valid, Bool.not_eq_true', Bool.not_eq_false', go_sem, eq_self, Nat.reduceEqDiff, Nat.reduceBEq, Nat.reduceAdd, Nat.reduceLeDiff, reduceIte, reduceCtorEq, tysA, tyA, Ty.enc, Ty.encs])
      | (refine Run.condM ?_; simp -implicitDefEqProofs only [hi, n1, n2, hw, hc, e1, e2, e3, e4, e5, e6, e7, e8, e9, m4, m5, eqB hn, lenG q1, gtG q2, encs_len, rs_typing_validator_valid, Bool.not_eq_true', Bool.not_eq_false', go_sem, eq_self, Nat.reduceEqDiff, Nat.reduceBEq, Nat.reduceAdd, Nat.reduceLeDiff, reduceIte, reduceCtorEq, tysA, tyA, Ty.enc, Ty.encs])
      | (refine XCall.mk rfl hcall ?_; rintro _ _ ⟨L', rfl, rfl, hL'⟩; (try simp -implicitDefEqProofs only [hi, n1, n2, hw, hc, e1, e2, e3, e4, e5, e6, e7, e8, e9, m4, m5, eqB hn, lenG q1, gtG q2, encs_len, rs_typing_validator_valid, Bool.not_eq_true', Bool.not_eq_false', go_sem, eq_self, Nat.reduceEqDiff, Nat.reduceBEq, Nat.reduceAdd, Nat.reduceLeDiff, reduceIte, reduceCtorEq, tysA, tyA, Ty.enc, Ty.encs]))
      | (refine Run.retP g_typing_validator_valid (vb_le hj hij) ?_; (try simp -implicitDefEqProofs only [hi, n1, n2, hw, hc, e1, e2, e3, e4, e5, e6, e7, e8, e9, m4, m5, eqB hn, lenG q1, gtG q2, encs_len, rs_typing_validator_valid, Bool.not_eq_true', Bool.not_eq_false', go_sem, eq_self, Nat.reduceEqDiff, Nat.reduceBEq, Nat.reduceAdd, Nat.reduceLeDiff, reduceIte, reduceCtorEq, tysA, tyA, Ty.enc, Ty.encs]))
      | (refine xo_gs rfl (fun h => ?_) (fun h => ?_) <;> first | (cases h; done) | simp -implicitDefEqProofs only [hi, n1, n2, hw, hc, e1, e2, e3, e4, e5, e6, e7, e8, e9, m4, m5, eqB hn, lenG q1, gtG q2, encs_len, rs_typing_validator_valid, Bool.not_eq_true', Bool.not_eq_false', go_sem, eq_self, Nat.reduceEqDiff, Nat.reduceBEq, Nat.reduceAdd, Nat.reduceLeDiff, reduceIte, reduceCtorEq, tysA, tyA, Ty.enc, Ty.encs])
      | (refine ⟨fun h => ?_, fun h => ?_⟩ <;> first | (cases h; done) | (simp -implicitDefEqProofs only [h]; done) | (try simp -implicitDefEqProofs only [h]))
      | fail))
      have hshape : shapeOk data vars 6 nm l.length = true := by
        have a1 : 2 ≤ l.length := by omega
        have a2 : l.length ≤ 6 := by omega
        simp [shapeOk, hn, a1, a2]
      exact hyes _ L' hshape (by simp) (fun h => hL' (by simpa using h))
    by_cases k7 : kd = 7
    · subst k7
      have e1 : ((7 : Int) == 1) = false := by decide
      have e2 : ((7 : Int) == 2) = false := by decide
      have e3 : ((7 : Int) == 3) = false := by decide
      have e4 : ((7 : Int) == 4) = false := by decide
      have e5 : ((7 : Int) == 5) = false := by decide
      have e6 : ((7 : Int) == 6) = false := by decide
      have e7 : ((7 : Int) == 7) = true := by decide
      have e8 : ((7 : Int) == 8) = false := by decide
      have e9 : ((7 : Int) == 9) = false := by decide
      have m4 : ((7 : Int) != 4) = true := by decide
      have m5 : ((7 : Int) != 5) = true := by decide
      by_cases hn : nm = 0
      case neg =>
        (repeat' (first
      | refine Run.seq ?_
      | refine Run.skip ?_
      | refine Run.block ?_
      | refine Run.blk ?_
      | refine Run.scope ?_
      | refine Run.scp ?_
      | (refine Run.exit rfl ?_)
      | (refine Run.reg mixed ?_; simp -implicitDefEqProofs only [hi, n1, n2, hw, hc, e1, e2, e3, e4, e5, e6, e7, e8, e9, m4, m5, neB hn, rs_typing_validator_valid, Bool.not_eq_true', Bool.not_eq_false', go_sem, eq_self, Nat.reduceEqDiff, Nat.reduceBEq, Nat.reduceAdd, Nat.reduceLeDiff, reduceIte, reduceCtorEq, tysA, tyA, Ty.enc, Ty.encs])
      | (refine Run.condM ?_; simp -implicitDefEqProofs only [hi, n1, n2, hw, hc, e1, e2, e3, e4, e5, e6, e7, e8, e9, m4, m5, neB hn, rs_typing_validator_valid, Bool.not_eq_true', Bool.not_eq_false', go_sem, eq_self, Nat.reduceEqDiff, Nat.reduceBEq, Nat.reduceAdd, Nat.reduceLeDiff, reduceIte, reduceCtorEq, tysA, tyA, Ty.enc, Ty.encs])
      | (refine Run.retP g_typing_validator_valid (vb_le hj hij) ?_; (try simp -implicitDefEqProofs only [hi, n1, n2, hw, hc, e1, e2, e3, e4, e5, e6, e7, e8, e9, m4, m5, neB hn, rs_typing_validator_valid, Bool.not_eq_true', Bool.not_eq_false', go_sem, eq_self, Nat.reduceEqDiff, Nat.reduceBEq, Nat.reduceAdd, Nat.reduceLeDiff, reduceIte, reduceCtorEq, tysA, tyA, Ty.enc, Ty.encs]))
      | (refine xo_gs rfl (fun h => ?_) (fun h => ?_) <;> first | (cases h; done) | simp -implicitDefEqProofs only [hi, n1, n2, hw, hc, e1, e2, e3, e4, e5, e6, e7, e8, e9, m4, m5, neB hn, rs_typing_validator_valid, Bool.not_eq_true', Bool.not_eq_false', go_sem, eq_self, Nat.reduceEqDiff, Nat.reduceBEq, Nat.reduceAdd, Nat.reduceLeDiff, reduceIte, reduceCtorEq, tysA, tyA, Ty.enc, Ty.encs])
      | (refine ⟨fun h => ?_, fun h => ?_⟩ <;> first | (cases h; done) | (simp -implicitDefEqProofs only [h]; done) | (try simp -implicitDefEqProofs only [h]))
      | fail))
        exact hno _ (by
          simp [shapeOk, hn])
      by_cases q1 : (l.length : Int) < 1
      ·
        (repeat' (first
      | refine Run.seq ?_
      | refine Run.skip ?_
      | refine Run.block ?_
      | refine Run.blk ?_
      | refine Run.scope ?_
      | refine Run.scp ?_
      | (refine Run.exit rfl ?_)
      | (refine Run.reg mixed ?_; simp -implicitDefEqProofs only [hi, n1, n2, hw, hc, e1, e2, e3, e4, e5, e6, e7, e8, e9, m4, m5, eqB hn, encs_len, lenF q1, rs_typing_validator_valid, Bool.not_eq_true', Bool.not_eq_false', go_sem, eq_self, Nat.reduceEqDiff, Nat.reduceBEq, Nat.reduceAdd, Nat.reduceLeDiff, reduceIte, reduceCtorEq, tysA, tyA, Ty.enc, Ty.encs])
      | (refine Run.condM ?_; simp -implicitDefEqProofs only [hi, n1, n2, hw, hc, e1, e2, e3, e4, e5, e6, e7, e8, e9, m4, m5, eqB hn, encs_len, lenF q1, rs_typing_validator_valid, Bool.not_eq_true', Bool.not_eq_false', go_sem, eq_self, Nat.reduceEqDiff, Nat.reduceBEq, Nat.reduceAdd, Nat.reduceLeDiff, reduceIte, reduceCtorEq, tysA, tyA, Ty.enc, Ty.encs])
      | (refine Run.retP g_typing_validator_valid (vb_le hj hij) ?_; (try simp -implicitDefEqProofs only [hi, n1, n2, hw, hc, e1, e2, e3, e4, e5, e6, e7, e8, e9, m4, m5, eqB hn, encs_len, lenF q1, rs_typing_validator_valid, Bool.not_eq_true', Bool.not_eq_false', go_sem, eq_self, Nat.reduceEqDiff, Nat.reduceBEq, Nat.reduceAdd, Nat.reduceLeDiff, reduceIte, reduceCtorEq, tysA, tyA, Ty.enc, Ty.encs]))
      | (refine xo_gs rfl (fun h => ?_) (fun h => ?_) <;> first | (cases h; done) | simp -implicitDefEqProofs only [hi, n1, n2, hw, hc, e1, e2, e3, e4, e5, e6, e7, e8, e9, m4, m5, eqB hn, encs_len, lenF q1, rs_typing_validator_valid, Bool.not_eq_true', Bool.not_eq_false', go_sem, eq_self, Nat.reduceEqDiff, Nat.reduceBEq, Nat.reduceAdd, Nat.reduceLeDiff, reduceIte, reduceCtorEq, tysA, tyA, Ty.enc, Ty.encs])
      | (refine ⟨fun h => ?_, fun h => ?_⟩ <;> first | (cases h; done) | (simp -implicitDefEqProofs only [h]; done) | (try simp -implicitDefEqProofs only [h]))
      | fail))
        exact hno _ (by
          have : ¬ (l.length = 1) := by omega
          simp [shapeOk, this])
      by_cases q2 : 1 < (l.length : Int)
      ·
        (repeat' (first
      | refine Run.seq ?_
      | refine Run.skip ?_
      | refine Run.block ?_
      | refine Run.blk ?_
      | refine Run.scope ?_
      | refine Run.scp ?_
      | (refine Run.exit rfl ?_)
      | (refine Run.reg mixed ?_; simp -implicitDefEqProofs only [hi, n1, n2, hw, hc, e1, e2, e3, e4, e5, e6, e7, e8, e9, m4, m5, eqB hn, encs_len, lenG q1, gtF q2, rs_typing_validator_valid, Bool.not_eq_true', Bool.not_eq_false', go_sem, eq_self, Nat.reduceEqDiff, Nat.reduceBEq, Nat.reduceAdd, Nat.reduceLeDiff, reduceIte, reduceCtorEq, tysA, tyA, Ty.enc, Ty.encs])
      | (refine Run.condM ?_; simp -implicitDefEqProofs only [hi, n1, n2, hw, hc, e1, e2, e3, e4, e5, e6, e7, e8, e9, m4, m5, eqB hn, encs_len, lenG q1, gtF q2, rs_typing_validator_valid, Bool.not_eq_true', Bool.not_eq_false', go_sem, eq_self, Nat.reduceEqDiff, Nat.reduceBEq, Nat.reduceAdd, Nat.reduceLeDiff, reduceIte, reduceCtorEq, tysA, tyA, Ty.enc, Ty.encs])
      | (refine Run.retP g_typing_validator_valid (vb_le hj hij) ?_; (try simp -implicitDefEqProofs only [hi, n1, n2, hw, hc, e1, e2, e3, e4, e5, e6, e7, e8, e9, m4, m5, eqB hn, encs_len, lenG q1, gtF q2, rs_typing_validator_valid, Bool.not_eq_true', Bool.not_eq_false', go_sem, eq_self, Nat.reduceEqDiff, Nat.reduceBEq, Nat.reduceAdd, Nat.reduceLeDiff, reduceIte, reduceCtorEq, tysA, tyA, Ty.enc, Ty.encs]))
      | (refine xo_gs rfl (fun h => ?_) (fun h => ?_) <;> first | (cases h; done) | simp -implicitDefEqProofs only [hi, n1, n2, hw, hc, e1, e2, e3, e4, e5, e6, e7, e8, e9, m4, m5, eqB hn, encs_len, lenG q1, gtF q2, rs_typing_validator_valid, Bool.not_eq_true', Bool.not_eq_false', go_sem, eq_self, Nat.reduceEqDiff, Nat.reduceBEq, Nat.reduceAdd, Nat.reduceLeDiff, reduceIte, reduceCtorEq, tysA, tyA, Ty.enc, Ty.encs])
      | (refine ⟨fun h => ?_, fun h => ?_⟩ <;> first | (cases h; done) | (simp -implicitDefEqProofs only [h]; done) | (try simp -implicitDefEqProofs only [h]))
      | fail))
        exact hno _ (by
          have : ¬ (l.length = 1) := by omega
          simp [shapeOk, this])
      (repeat' (first
      | refine Run.seq ?_
      | refine Run.skip ?_
      | refine Run.block ?_
      | refine Run.blk ?_
      | refine Run.scope ?_
      | refine Run.scp ?_
      | (refine Run.exit rfl ?_)
      | (refine Run.reg mixed ?_; simp -implicitDefEqProofs only [hi, n1, n2, hw, hc, e1, e2, e3, e4, e5, e6, e7, e8, e9, m4, m5, eqB hn, lenG q1, gtG q2, encs_len, rs_typing_validator_valid, Bool.not_eq_true', Bool.not_eq_false', go_sem, eq_self, Nat.reduceEqDiff, Nat.reduceBEq, Nat.reduceAdd, Nat.reduceLeDiff, reduceIte, reduceCtorEq, tysA, tyA, Ty.enc, Ty.encs])
      | (refine Run.condM ?_; simp -implicitDefEqProofs only [hi, n1, n2, hw, hc, e1, e2, e3, e4, e5, e6, e7, e8, e9, m4, m5, eqB hn, lenG q1, gtG q2, encs_len, rs_typing_validator_valid, Bool.not_eq_true', Bool.not_eq_false', go_sem, eq_self, Nat.reduceEqDiff, Nat.reduceBEq, Nat.reduceAdd, Nat.reduceLeDiff, reduceIte, reduceCtorEq, tysA, tyA, Ty.enc, Ty.encs])
      | (refine XCall.mk rfl hcall ?_; rintro _ _ ⟨L', rfl, rfl, hL'⟩; (try simp -implicitDefEqProofs only [hi, n1, n2, hw, hc, e1, e2, e3, e4, e5, e6, e7, e8, e9, m4, m5, eqB hn, lenG q1, gtG q2, encs_len, rs_typing_validator_valid, Bool.not_eq_true', Bool.not_eq_false', go_sem, eq_self, Nat.reduceEqDiff, Nat.reduceBEq, Nat.reduceAdd, Nat.reduceLeDiff, reduceIte, reduceCtorEq, tysA, tyA, Ty.enc, Ty.encs]))
      | (refine Run.retP g_typing_validator_valid (vb_le hj hij) ?_; (try simp -implicitDefEqProofs only [hi, n1, n2, hw, hc, e1, e2, e3, e4, e5, e6, e7, e8, e9, m4, m5, eqB hn, lenG q1, gtG q2, encs_len, rs_typing_validator_valid, Bool.not_eq_true', Bool.not_eq_false', go_sem, eq_self, Nat.reduceEqDiff, Nat.reduceBEq, Nat.reduceAdd, Nat.reduceLeDiff, reduceIte, reduceCtorEq, tysA, tyA, Ty.enc, Ty.encs]))
      | (refine xo_gs rfl (fun h => ?_) (fun h => ?_) <;> first | (cases h; done) | simp -implicitDefEqProofs only [hi, n1, n2, hw, hc, e1, e2, e3, e4, e5, e6, e7, e8, e9, m4, m5, eqB hn, lenG q1, gtG q2, encs_len, rs_typing_validator_valid, Bool.not_eq_true', Bool.not_eq_false', go_sem, eq_self, Nat.reduceEqDiff, Nat.reduceBEq, Nat.reduceAdd, Nat.reduceLeDiff, reduceIte, reduceCtorEq, tysA, tyA, Ty.enc, Ty.encs])
      | (refine ⟨fun h => ?_, fun h => ?_⟩ <;> first | (cases h; done) | (simp -implicitDefEqProofs only [h]; done) | (try simp -implicitDefEqProofs only [h]))
      | fail))
      have hshape : shapeOk data vars 7 nm l.length = true := by
        have : l.length = 1 := by omega
        simp [shapeOk, hn, this]
      exact hyes _ L' hshape (by simp) (fun h => hL' (by simpa using h))
    by_cases k8 : kd = 8
    · subst k8
      have e1 : ((8 : Int) == 1) = false := by decide
      have e2 : ((8 : Int) == 2) = false := by decide
      have e3 : ((8 : Int) == 3) = false := by decide
      have e4 : ((8 : Int) == 4) = false := by decide
      have e5 : ((8 : Int) == 5) = false := by decide
      have e6 : ((8 : Int) == 6) = false := by decide
      have e7 : ((8 : Int) == 7) = false := by decide
      have e8 : ((8 : Int) == 8) = true := by decide
      have e9 : ((8 : Int) == 9) = false := by decide
      have m4 : ((8 : Int) != 4) = true := by decide
      have m5 : ((8 : Int) != 5) = true := by decide
      by_cases hn : nm = 0
      case neg =>
        (repeat' (first
      | refine Run.seq ?_
      | refine Run.skip ?_
      | refine Run.block ?_
      | refine Run.blk ?_
      | refine Run.scope ?_
      | refine Run.scp ?_
      | (refine Run.exit rfl ?_)
      | (refine Run.reg mixed ?_; simp -implicitDefEqProofs only [hi, n1, n2, hw, hc, e1, e2, e3, e4, e5, e6, e7, e8, e9, m4, m5, neB hn, rs_typing_validator_valid, Bool.not_eq_true', Bool.not_eq_false', go_sem, eq_self, Nat.reduceEqDiff, Nat.reduceBEq, Nat.reduceAdd, Nat.reduceLeDiff, reduceIte, reduceCtorEq, tysA, tyA, Ty.enc, Ty.encs])
      | (refine Run.condM ?_; simp -implicitDefEqProofs only [hi, n1, n2, hw, hc, e1, e2, e3, e4, e5, e6, e7, e8, e9, m4, m5, neB hn, rs_typing_validator_valid, Bool.not_eq_true', Bool.not_eq_false', go_sem, eq_self, Nat.reduceEqDiff, Nat.reduceBEq, Nat.reduceAdd, Nat.reduceLeDiff, reduceIte, reduceCtorEq, tysA, tyA, Ty.enc, Ty.encs])
      | (refine Run.retP g_typing_validator_valid (vb_le hj hij) ?_; (try simp -implicitDefEqProofs only [hi, n1, n2, hw, hc, e1, e2, e3, e4, e5, e6, e7, e8, e9, m4, m5, neB hn, rs_typing_validator_valid, Bool.not_eq_true', Bool.not_eq_false', go_sem, eq_self, Nat.reduceEqDiff, Nat.reduceBEq, Nat.reduceAdd, Nat.reduceLeDiff, reduceIte, reduceCtorEq, tysA, tyA, Ty.enc, Ty.encs]))
      | (refine xo_gs rfl (fun h => ?_) (fun h => ?_) <;> first | (cases h; done) | simp -implicitDefEqProofs only [hi, n1, n2, hw, hc, e1, e2, e3, e4, e5, e6, e7, e8, e9, m4, m5, neB hn, rs_typing_validator_valid, Bool.not_eq_true', Bool.not_eq_false', go_sem, eq_self, Nat.reduceEqDiff, Nat.reduceBEq, Nat.reduceAdd, Nat.reduceLeDiff, reduceIte, reduceCtorEq, tysA, tyA, Ty.enc, Ty.encs])
      | (refine ⟨fun h => ?_, fun h => ?_⟩ <;> first | (cases h; done) | (simp -implicitDefEqProofs only [h]; done) | (try simp -implicitDefEqProofs only [h]))
      | fail))
        exact hno _ (by
          simp [shapeOk, hn])
      by_cases q1 : (l.length : Int) < 1
      ·
        (repeat' (first
      | refine Run.seq ?_
      | refine Run.skip ?_
      | refine Run.block ?_
      | refine Run.blk ?_
      | refine Run.scope ?_
      | refine Run.scp ?_
      | (refine Run.exit rfl ?_)
      | (refine Run.reg mixed ?_; simp -implicitDefEqProofs only [hi, n1, n2, hw, hc, e1, e2, e3, e4, e5, e6, e7, e8, e9, m4, m5, eqB hn, encs_len, lenF q1, rs_typing_validator_valid, Bool.not_eq_true', Bool.not_eq_false', go_sem, eq_self, Nat.reduceEqDiff, Nat.reduceBEq, Nat.reduceAdd, Nat.reduceLeDiff, reduceIte, reduceCtorEq, tysA, tyA, Ty.enc, Ty.encs])
      | (refine Run.condM ?_; simp -implicitDefEqProofs only [hi, n1, n2, hw, hc, e1, e2, e3, e4, e5, e6, e7, e8, e9, m4, m5, eqB hn, encs_len, lenF q1, rs_typing_validator_valid, Bool.not_eq_true', Bool.not_eq_false', go_sem, eq_self, Nat.reduceEqDiff, Nat.reduceBEq, Nat.reduceAdd, Nat.reduceLeDiff, reduceIte, reduceCtorEq, tysA, tyA, Ty.enc, Ty.encs])
      | (refine Run.retP g_typing_validator_valid (vb_le hj hij) ?_; (try simp -implicitDefEqProofs only [hi, n1, n2, hw, hc, e1, e2, e3, e4, e5, e6, e7, e8, e9, m4, m5, eqB hn, encs_len, lenF q1, rs_typing_validator_valid, Bool.not_eq_true', Bool.not_eq_false', go_sem, eq_self, Nat.reduceEqDiff, Nat.reduceBEq, Nat.reduceAdd, Nat.reduceLeDiff, reduceIte, reduceCtorEq, tysA, tyA, Ty.enc, Ty.encs]))
      | (refine xo_gs rfl (fun h => ?_) (fun h => ?_) <;> first | (cases h; done) | simp -implicitDefEqProofs only [hi, n1, n2, hw, hc, e1, e2, e3, e4, e5, e6, e7, e8, e9, m4, m5, eqB hn, encs_len, lenF q1, rs_typing_validator_valid, Bool.not_eq_true', Bool.not_eq_false', go_sem, eq_self, Nat.reduceEqDiff, Nat.reduceBEq, Nat.reduceAdd, Nat.reduceLeDiff, reduceIte, reduceCtorEq, tysA, tyA, Ty.enc, Ty.encs])
      | (refine ⟨fun h => ?_, fun h => ?_⟩ <;> first | (cases h; done) | (simp -implicitDefEqProofs only [h]; done) | (try simp -implicitDefEqProofs only [h]))
      | fail))
        exact hno _ (by
          have : ¬ (l.length = 1) := by omega
          simp [shapeOk, this])
      by_cases q2 : 1 < (l.length : Int)
      ·
        (repeat' (first
      | refine Run.seq ?_
      | refine Run.skip ?_
      | refine Run.block ?_
      | refine Run.blk ?_
      | refine Run.scope ?_
      | refine Run.scp ?_
      | (refine Run.exit rfl ?_)
      | (refine Run.reg mixed ?_; simp -implicitDefEqProofs only [hi, n1, n2, hw, hc, e1, e2, e3, e4, e5, e6, e7, e8, e9, m4, m5, eqB hn, encs_len, lenG q1, gtF q2, rs_typing_validator_valid, Bool.not_eq_true', Bool.not_eq_false', go_sem, eq_self, Nat.reduceEqDiff, Nat.reduceBEq, Nat.reduceAdd, Nat.reduceLeDiff, reduceIte, reduceCtorEq, tysA, tyA, Ty.enc, Ty.encs])
      | (refine Run.condM ?_; simp -implicitDefEqProofs only [hi, n1, n2, hw, hc, e1, e2, e3, e4, e5, e6, e7, e8, e9, m4, m5, eqB hn, encs_len, lenG q1, gtF q2, rs_typing_validator_valid, Bool.not_eq_true', Bool.not_eq_false', go_sem, eq_self, Nat.reduceEqDiff, Nat.reduceBEq, Nat.reduceAdd, Nat.reduceLeDiff, reduceIte, reduceCtorEq, tysA, tyA, Ty.enc, Ty.encs])
      | (refine Run.retP g_typing_validator_valid (vb_le hj hij) ?_; (try simp -implicitDefEqProofs only [hi, n1, n2, hw, hc, e1, e2, e3, e4, e5, e6, e7, e8, e9, m4, m5, eqB hn, encs_len, lenG q1, gtF q2, rs_typing_validator_valid, Bool.not_eq_true', Bool.not_eq_false', go_sem, eq_self, Nat.reduceEqDiff, Nat.reduceBEq, Nat.reduceAdd, Nat.reduceLeDiff, reduceIte, reduceCtorEq, tysA, tyA, Ty.enc, Ty.encs]))
      | (refine xo_gs rfl (fun h => ?_) (fun h => ?_) <;> first | (cases h; done) | simp -implicitDefEqProofs only [hi, n1, n2, hw, hc, e1, e2, e3, e4, e5, e6, e7, e8, e9, m4, m5, eqB hn, encs_len, lenG q1, gtF q2, rs_typing_validator_valid, Bool.not_eq_true', Bool.not_eq_false', go_sem, eq_self, Nat.reduceEqDiff, Nat.reduceBEq, Nat.reduceAdd, Nat.reduceLeDiff, reduceIte, reduceCtorEq, tysA, tyA, Ty.enc, Ty.encs])
      | (refine ⟨fun h => ?_, fun h => ?_⟩ <;> first | (cases h; done) | (simp -implicitDefEqProofs only [h]; done) | (try simp -implicitDefEqProofs only [h]))
      | fail))
        exact hno _ (by
          have : ¬ (l.length = 1) := by omega
          simp [shapeOk, this])
      (repeat' (first
      | refine Run.seq ?_
      | refine Run.skip ?_
      | refine Run.block ?_
      | refine Run.blk ?_
      | refine Run.scope ?_
      | refine Run.scp ?_
      | (refine Run.exit rfl ?_)
      | (refine Run.reg mixed ?_; simp -implicitDefEqProofs only [hi, n1, n2, hw, hc, e1, e2, e3, e4, e5, e6, e7, e8, e9, m4, m5, eqB hn, lenG q1, gtG q2, encs_len, rs_typing_validator_valid, Bool.not_eq_true', Bool.not_eq_false', go_sem, eq_self, Nat.reduceEqDiff, Nat.reduceBEq, Nat.reduceAdd, Nat.reduceLeDiff, reduceIte, reduceCtorEq, tysA, tyA, Ty.enc, Ty.encs])
      | (refine Run.condM ?_; simp -implicitDefEqProofs only [hi, n1, n2, hw, hc, e1, e2, e3, e4, e5, e6, e7, e8, e9, m4, m5, eqB hn, lenG q1, gtG q2, encs_len, rs_typing_validator_valid, Bool.not_eq_true', Bool.not_eq_false', go_sem, eq_self, Nat.reduceEqDiff, Nat.reduceBEq, Nat.reduceAdd, Nat.reduceLeDiff, reduceIte, reduceCtorEq, tysA, tyA, Ty.enc, Ty.encs])
      | (refine XCall.mk rfl hcall ?_; rintro _ _ ⟨L', rfl, rfl, hL'⟩; (try simp -implicitDefEqProofs only [hi, n1, n2, hw, hc, e1, e2, e3, e4, e5, e6, e7, e8, e9, m4, m5, eqB hn, lenG q1, gtG q2, encs_len, rs_typing_validator_valid, Bool.not_eq_true', Bool.not_eq_false', go_sem, eq_self, Nat.reduceEqDiff, Nat.reduceBEq, Nat.reduceAdd, Nat.reduceLeDiff, reduceIte, reduceCtorEq, tysA, tyA, Ty.enc, Ty.encs]))
      | (refine Run.retP g_typing_validator_valid (vb_le hj hij) ?_; (try simp -implicitDefEqProofs only [hi, n1, n2, hw, hc, e1, e2, e3, e4, e5, e6, e7, e8, e9, m4, m5, eqB hn, lenG q1, gtG q2, encs_len, rs_typing_validator_valid, Bool.not_eq_true', Bool.not_eq_false', go_sem, eq_self, Nat.reduceEqDiff, Nat.reduceBEq, Nat.reduceAdd, Nat.reduceLeDiff, reduceIte, reduceCtorEq, tysA, tyA, Ty.enc, Ty.encs]))
      | (refine xo_gs rfl (fun h => ?_) (fun h => ?_) <;> first | (cases h; done) | simp -implicitDefEqProofs only [hi, n1, n2, hw, hc, e1, e2, e3, e4, e5, e6, e7, e8, e9, m4, m5, eqB hn, lenG q1, gtG q2, encs_len, rs_typing_validator_valid, Bool.not_eq_true', Bool.not_eq_false', go_sem, eq_self, Nat.reduceEqDiff, Nat.reduceBEq, Nat.reduceAdd, Nat.reduceLeDiff, reduceIte, reduceCtorEq, tysA, tyA, Ty.enc, Ty.encs])
      | (refine ⟨fun h => ?_, fun h => ?_⟩ <;> first | (cases h; done) | (simp -implicitDefEqProofs only [h]; done) | (try simp -implicitDefEqProofs only [h]))
      | fail))
      have hshape : shapeOk data vars 8 nm l.length = true := by
        have : l.length = 1 := by omega
        simp [shapeOk, hn, this]
      exact hyes _ L' hshape (by simp) (fun h => hL' (by simpa using h))
    by_cases k9 : kd = 9
    · subst k9
      have e1 : ((9 : Int) == 1) = false := by decide
      have e2 : ((9 : Int) == 2) = false := by decide
      have e3 : ((9 : Int) == 3) = false := by decide
      have e4 : ((9 : Int) == 4) = false := by decide
      have e5 : ((9 : Int) == 5) = false := by decide
      have e6 : ((9 : Int) == 6) = false := by decide
      have e7 : ((9 : Int) == 7) = false := by decide
      have e8 : ((9 : Int) == 8) = false := by decide
      have e9 : ((9 : Int) == 9) = true := by decide
      have m4 : ((9 : Int) != 4) = true := by decide
      have m5 : ((9 : Int) != 5) = true := by decide
      by_cases hn : nm = 0
      case neg =>
        (repeat' (first
      | refine Run.seq ?_
      | refine Run.skip ?_
      | refine Run.block ?_
      | refine Run.blk ?_
      | refine Run.scope ?_
      | refine Run.scp ?_
      | (refine Run.exit rfl ?_)
      | (refine Run.reg mixed ?_; simp -implicitDefEqProofs only [hi, n1, n2, hw, hc, e1, e2, e3, e4, e5, e6, e7, e8, e9, m4, m5, neB hn, rs_typing_validator_valid, Bool.not_eq_true', Bool.not_eq_false', go_sem, eq_self, Nat.reduceEqDiff, Nat.reduceBEq, Nat.reduceAdd, Nat.reduceLeDiff, reduceIte, reduceCtorEq, tysA, tyA, Ty.enc, Ty.encs])
      | (refine Run.condM ?_; simp -implicitDefEqProofs only [hi, n1, n2, hw, hc, e1, e2, e3, e4, e5, e6, e7, e8, e9, m4, m5, neB hn, rs_typing_validator_valid, Bool.not_eq_true', Bool.not_eq_false', go_sem, eq_self, Nat.reduceEqDiff, Nat.reduceBEq, Nat.reduceAdd, Nat.reduceLeDiff, reduceIte, reduceCtorEq, tysA, tyA, Ty.enc, Ty.encs])
      | (refine Run.retP g_typing_validator_valid (vb_le hj hij) ?_; (try simp -implicitDefEqProofs only [hi, n1, n2, hw, hc, e1, e2, e3, e4, e5, e6, e7, e8, e9, m4, m5, neB hn, rs_typing_validator_valid, Bool.not_eq_true', Bool.not_eq_false', go_sem, eq_self, Nat.reduceEqDiff, Nat.reduceBEq, Nat.reduceAdd, Nat.reduceLeDiff, reduceIte, reduceCtorEq, tysA, tyA, Ty.enc, Ty.encs]))
      | (refine xo_gs rfl (fun h => ?_) (fun h => ?_) <;> first | (cases h; done) | simp -implicitDefEqProofs only [hi, n1, n2, hw, hc, e1, e2, e3, e4, e5, e6, e7, e8, e9, m4, m5, neB hn, rs_typing_validator_valid, Bool.not_eq_true', Bool.not_eq_false', go_sem, eq_self, Nat.reduceEqDiff, Nat.reduceBEq, Nat.reduceAdd, Nat.reduceLeDiff, reduceIte, reduceCtorEq, tysA, tyA, Ty.enc, Ty.encs])
      | (refine ⟨fun h => ?_, fun h => ?_⟩ <;> first | (cases h; done) | (simp -implicitDefEqProofs only [h]; done) | (try simp -implicitDefEqProofs only [h]))
      | fail))
        exact hno _ (by
          simp [shapeOk, hn])
      by_cases q1 : (l.length : Int) < 1
      ·
        (repeat' (first
      | refine Run.seq ?_
      | refine Run.skip ?_
      | refine Run.block ?_
      | refine Run.blk ?_
      | refine Run.scope ?_
      | refine Run.scp ?_
      | (refine Run.exit rfl ?_)
      | (refine Run.reg mixed ?_; simp -implicitDefEqProofs only [hi, n1, n2, hw, hc, e1, e2, e3, e4, e5, e6, e7, e8, e9, m4, m5, eqB hn, encs_len, lenF q1, rs_typing_validator_valid, Bool.not_eq_true', Bool.not_eq_false', go_sem, eq_self, Nat.reduceEqDiff, Nat.reduceBEq, Nat.reduceAdd, Nat.reduceLeDiff, reduceIte, reduceCtorEq, tysA, tyA, Ty.enc, Ty.encs])
      | (refine Run.condM ?_; simp -implicitDefEqProofs only [hi, n1, n2, hw, hc, e1, e2, e3, e4, e5, e6, e7, e8, e9, m4, m5, eqB hn, encs_len, lenF q1, rs_typing_validator_valid, Bool.not_eq_true', Bool.not_eq_false', go_sem, eq_self, Nat.reduceEqDiff, Nat.reduceBEq, Nat.reduceAdd, Nat.reduceLeDiff, reduceIte, reduceCtorEq, tysA, tyA, Ty.enc, Ty.encs])
      | (refine Run.retP g_typing_validator_valid (vb_le hj hij) ?_; (try simp -implicitDefEqProofs only [hi, n1, n2, hw, hc, e1, e2, e3, e4, e5, e6, e7, e8, e9, m4, m5, eqB hn, encs_len, lenF q1, rs_typing_validator_valid, Bool.not_eq_true', Bool.not_eq_false', go_sem, eq_self, Nat.reduceEqDiff, Nat.reduceBEq, Nat.reduceAdd, Nat.reduceLeDiff, reduceIte, reduceCtorEq, tysA, tyA, Ty.enc, Ty.encs]))
      | (refine xo_gs rfl (fun h => ?_) (fun h => ?_) <;> first | (cases h; done) | simp -implicitDefEqProofs only [hi, n1, n2, hw, hc, e1, e2, e3, e4, e5, e6, e7, e8, e9, m4, m5, eqB hn, encs_len, lenF q1, rs_typing_validator_valid, Bool.not_eq_true', Bool.not_eq_false', go_sem, eq_self, Nat.reduceEqDiff, Nat.reduceBEq, Nat.reduceAdd, Nat.reduceLeDiff, reduceIte, reduceCtorEq, tysA, tyA, Ty.enc, Ty.encs])
      | (refine ⟨fun h => ?_, fun h => ?_⟩ <;> first | (cases h; done) | (simp -implicitDefEqProofs only [h]; done) | (try simp -implicitDefEqProofs only [h]))
      | fail))
        exact hno _ (by
          have : ¬ (1 ≤ l.length) := by omega
          simp [shapeOk, this])
      by_cases q2 : 7 < (l.length : Int)
      ·
        (repeat' (first
      | refine Run.seq ?_
      | refine Run.skip ?_
      | refine Run.block ?_
      | refine Run.blk ?_
      | refine Run.scope ?_
      | refine Run.scp ?_
      | (refine Run.exit rfl ?_)
      | (refine Run.reg mixed ?_; simp -implicitDefEqProofs only [hi, n1, n2, hw, hc, e1, e2, e3, e4, e5, e6, e7, e8, e9, m4, m5, eqB hn, encs_len, lenG q1, gtF q2, rs_typing_validator_valid, Bool.not_eq_true', Bool.not_eq_false', go_sem, eq_self, Nat.reduceEqDiff, Nat.reduceBEq, Nat.reduceAdd, Nat.reduceLeDiff, reduceIte, reduceCtorEq, tysA, tyA, Ty.enc, Ty.encs])
      | (refine Run.condM ?_; simp -implicitDefEqProofs only [hi, n1, n2, hw, hc, e1, e2, e3, e4, e5, e6, e7, e8, e9, m4, m5, eqB hn, encs_len, lenG q1, gtF q2, rs_typing_validator_valid, Bool.not_eq_true', Bool.not_eq_false', go_sem, eq_self, Nat.reduceEqDiff, Nat.reduceBEq, Nat.reduceAdd, Nat.reduceLeDiff, reduceIte, reduceCtorEq, tysA, tyA, Ty.enc, Ty.encs])
      | (refine Run.retP g_typing_validator_valid (vb_le hj hij) ?_; (try simp -implicitDefEqProofs only [hi, n1, n2, hw, hc, e1, e2, e3, e4, e5, e6, e7, e8, e9, m4, m5, eqB hn, encs_len, lenG q1, gtF q2, rs_typing_validator_valid, Bool.not_eq_true', Bool.not_eq_false', go_sem, eq_self, Nat.reduceEqDiff, Nat.reduceBEq, Nat.reduceAdd, Nat.reduceLeDiff, reduceIte, reduceCtorEq, tysA, tyA, Ty.enc, Ty.encs]))
      | (refine xo_gs rfl (fun h => ?_) (fun h => ?_) <;> first | (cases h; done) | simp -implicitDefEqProofs only [hi, n1, n2, hw, hc, e1, e2, e3, e4, e5, e6, e7, e8, e9, m4, m5, eqB hn, encs_len, lenG q1, gtF q2, rs_typing_validator_valid, Bool.not_eq_true', Bool.not_eq_false', go_sem, eq_self, Nat.reduceEqDiff, Nat.reduceBEq, Nat.reduceAdd, Nat.reduceLeDiff, reduceIte, reduceCtorEq, tysA, tyA, Ty.enc, Ty.encs])
      | (refine ⟨fun h => ?_, fun h => ?_⟩ <;> first | (cases h; done) | (simp -implicitDefEqProofs only [h]; done) | (try simp -implicitDefEqProofs only [h]))
      | fail))
        exact hno _ (by
          have : ¬ (l.length ≤ 7) := by omega
          simp [shapeOk, this])
      (repeat' (first
      | refine Run.seq ?_
      | refine Run.skip ?_
      | refine Run.block ?_
      | refine Run.blk ?_
      | refine Run.scope ?_
      | refine Run.scp ?_
      | (refine Run.exit rfl ?_)
      | (refine Run.reg mixed ?_; simp -implicitDefEqProofs only [hi, n1, n2, hw, hc, e1, e2, e3, e4, e5, e6, e7, e8, e9, m4, m5, eqB hn, lenG q1, gtG q2, encs_len, rs_typing_validator_valid, Bool.not_eq_true', Bool.not_eq_false', go_sem, eq_self, Nat.reduceEqDiff, Nat.reduceBEq, Nat.reduceAdd, Nat.reduceLeDiff, reduceIte, reduceCtorEq, tysA, tyA, Ty.enc, Ty.encs])
      | (refine Run.condM ?_; simp -implicitDefEqProofs only [hi, n1, n2, hw, hc, e1, e2, e3, e4, e5, e6, e7, e8, e9, m4, m5, eqB hn, lenG q1, gtG q2, encs_len, rs_typing_validator_valid, Bool.not_eq_true', Bool.not_eq_false', go_sem, eq_self, Nat.reduceEqDiff, Nat.reduceBEq, Nat.reduceAdd, Nat.reduceLeDiff, reduceIte, reduceCtorEq, tysA, tyA, Ty.enc, Ty.encs])
      | (refine XCall.mk rfl hcall ?_; rintro _ _ ⟨L', rfl, rfl, hL'⟩; (try simp -implicitDefEqProofs only [hi, n1, n2, hw, hc, e1, e2, e3, e4, e5, e6, e7, e8, e9, m4, m5, eqB hn, lenG q1, gtG q2, encs_len, rs_typing_validator_valid, Bool.not_eq_true', Bool.not_eq_false', go_sem, eq_self, Nat.reduceEqDiff, Nat.reduceBEq, Nat.reduceAdd, Nat.reduceLeDiff, reduceIte, reduceCtorEq, tysA, tyA, Ty.enc, Ty.encs]))
      | (refine Run.retP g_typing_validator_valid (vb_le hj hij) ?_; (try simp -implicitDefEqProofs only [hi, n1, n2, hw, hc, e1, e2, e3, e4, e5, e6, e7, e8, e9, m4, m5, eqB hn, lenG q1, gtG q2, encs_len, rs_typing_validator_valid, Bool.not_eq_true', Bool.not_eq_false', go_sem, eq_self, Nat.reduceEqDiff, Nat.reduceBEq, Nat.reduceAdd, Nat.reduceLeDiff, reduceIte, reduceCtorEq, tysA, tyA, Ty.enc, Ty.encs]))
      | (refine xo_gs rfl (fun h => ?_) (fun h => ?_) <;> first | (cases h; done) | simp -implicitDefEqProofs only [hi, n1, n2, hw, hc, e1, e2, e3, e4, e5, e6, e7, e8, e9, m4, m5, eqB hn, lenG q1, gtG q2, encs_len, rs_typing_validator_valid, Bool.not_eq_true', Bool.not_eq_false', go_sem, eq_self, Nat.reduceEqDiff, Nat.reduceBEq, Nat.reduceAdd, Nat.reduceLeDiff, reduceIte, reduceCtorEq, tysA, tyA, Ty.enc, Ty.encs])
      | (refine ⟨fun h => ?_, fun h => ?_⟩ <;> first | (cases h; done) | (simp -implicitDefEqProofs only [h]; done) | (try simp -implicitDefEqProofs only [h]))
      | fail))
      have hshape : shapeOk data vars 9 nm l.length = true := by
        have a1 : 1 ≤ l.length := by omega
        have a2 : l.length ≤ 7 := by omega
        simp [shapeOk, hn, a1, a2]
      exact hyes _ L' hshape (by simp) (fun h => hL' (by simpa using h))
    have e1 := beqF k1
    have e2 := beqF k2
    have e3 := beqF k3
    have e4 := beqF k4
    have e5 := beqF k5
    have e6 := beqF k6
    have e7 := beqF k7
    have e8 := beqF k8
    have e9 := beqF k9
    (repeat' (first
      | refine Run.seq ?_
      | refine Run.skip ?_
      | refine Run.block ?_
      | refine Run.blk ?_
      | refine Run.scope ?_
      | refine Run.scp ?_
      | (refine Run.exit rfl ?_)
      | (refine Run.reg mixed ?_; simp -implicitDefEqProofs only [hi, n1, n2, hw, hc, e1, e2, e3, e4, e5, e6, e7, e8, e9, rs_typing_validator_valid, Bool.not_eq_true', Bool.not_eq_false', go_sem, eq_self, Nat.reduceEqDiff, Nat.reduceBEq, Nat.reduceAdd, Nat.reduceLeDiff, reduceIte, reduceCtorEq, tysA, tyA, Ty.enc, Ty.encs])
      | (refine Run.condM ?_; simp -implicitDefEqProofs only [hi, n1, n2, hw, hc, e1, e2, e3, e4, e5, e6, e7, e8, e9, rs_typing_validator_valid, Bool.not_eq_true', Bool.not_eq_false', go_sem, eq_self, Nat.reduceEqDiff, Nat.reduceBEq, Nat.reduceAdd, Nat.reduceLeDiff, reduceIte, reduceCtorEq, tysA, tyA, Ty.enc, Ty.encs])
      | (refine Run.retP g_typing_validator_valid (vb_le hj hij) ?_; (try simp -implicitDefEqProofs only [hi, n1, n2, hw, hc, e1, e2, e3, e4, e5, e6, e7, e8, e9, rs_typing_validator_valid, Bool.not_eq_true', Bool.not_eq_false', go_sem, eq_self, Nat.reduceEqDiff, Nat.reduceBEq, Nat.reduceAdd, Nat.reduceLeDiff, reduceIte, reduceCtorEq, tysA, tyA, Ty.enc, Ty.encs]))
      | (refine xo_gs rfl (fun h => ?_) (fun h => ?_) <;> first | (cases h; done) | simp -implicitDefEqProofs only [hi, n1, n2, hw, hc, e1, e2, e3, e4, e5, e6, e7, e8, e9, rs_typing_validator_valid, Bool.not_eq_true', Bool.not_eq_false', go_sem, eq_self, Nat.reduceEqDiff, Nat.reduceBEq, Nat.reduceAdd, Nat.reduceLeDiff, reduceIte, reduceCtorEq, tysA, tyA, Ty.enc, Ty.encs])
      | (refine ⟨fun h => ?_, fun h => ?_⟩ <;> first | (cases h; done) | (simp -implicitDefEqProofs only [h]; done) | (try simp -implicitDefEqProofs only [h]))
      | fail))
    exact hno _ (by simp [shapeOk, k1, k2, k3, k4, k5, k6, k7, k8, k9])

theorem typing_Valid_ok (data : List Dat) (t : Ty) (vars : Int) (σ : Heap) : ACalls Tryd.prog 13 [dsA data, tyA t, .d (.int .i64 vars)] σ (fun v σ' => v = .d (.bool (decide (t.size ≤ 200) && validT data vars t)) ∧ σ' = σ) := by
  obtain ⟨kd, nm, l⟩ := t
  refine i_typing_Valid (by simp) ?_
  rw [argF_3, dsA]
  (repeat' (first
      | refine Run.seq ?_
      | refine Run.skip ?_
      | refine Run.block ?_
      | refine Run.blk ?_
      | refine Run.scope ?_
      | refine Run.scp ?_
      | (refine Run.exit rfl ?_)
      | (refine Run.reg mixed ?_; simp -implicitDefEqProofs only [rs_typing_Valid, Bool.not_eq_true', Bool.not_eq_false', go_sem, eq_self, Nat.reduceEqDiff, Nat.reduceBEq, Nat.reduceAdd, Nat.reduceLeDiff, reduceIte, reduceCtorEq, tysA, tyA, Ty.enc, Ty.encs])
      | (refine Run.condM ?_; simp -implicitDefEqProofs only [rs_typing_Valid, Bool.not_eq_true', Bool.not_eq_false', go_sem, eq_self, Nat.reduceEqDiff, Nat.reduceBEq, Nat.reduceAdd, Nat.reduceLeDiff, reduceIte, reduceCtorEq, tysA, tyA, Ty.enc, Ty.encs])
      | (refine xo_gs rfl (fun h => ?_) (fun h => ?_) <;> first | (cases h; done) | simp -implicitDefEqProofs only [rs_typing_Valid, Bool.not_eq_true', Bool.not_eq_false', go_sem, eq_self, Nat.reduceEqDiff, Nat.reduceBEq, Nat.reduceAdd, Nat.reduceLeDiff, reduceIte, reduceCtorEq, tysA, tyA, Ty.enc, Ty.encs])
      | (refine ⟨fun h => ?_, fun h => ?_⟩ <;> first | (cases h; done) | (simp -implicitDefEqProofs only [h]; done) | (try simp -implicitDefEqProofs only [h]))
      | fail))
  intro j hj
  have hcall := valid_ok data vars j 200 (by omega) (.mk kd nm l) (σ.setBlk j (vb data vars (200 : Nat))) (by simp only [setBlk_get, if_true])
  (repeat' (first
      | refine Run.seq ?_
      | refine Run.skip ?_
      | refine Run.block ?_
      | refine Run.blk ?_
      | refine Run.scope ?_
      | refine Run.scp ?_
      | (refine Run.exit rfl ?_)
      | (refine Run.reg mixed ?_; simp -implicitDefEqProofs only [rs_typing_Valid, Bool.not_eq_true', Bool.not_eq_false', go_sem, eq_self, Nat.reduceEqDiff, Nat.reduceBEq, Nat.reduceAdd, Nat.reduceLeDiff, reduceIte, reduceCtorEq, tysA, tyA, Ty.enc, Ty.encs])
      | (refine Run.condM ?_; simp -implicitDefEqProofs only [rs_typing_Valid, Bool.not_eq_true', Bool.not_eq_false', go_sem, eq_self, Nat.reduceEqDiff, Nat.reduceBEq, Nat.reduceAdd, Nat.reduceLeDiff, reduceIte, reduceCtorEq, tysA, tyA, Ty.enc, Ty.encs])
      | (refine XCall.mk rfl hcall ?_; rintro _ _ ⟨b, L', rfl, rfl, hb, _⟩; (try simp -implicitDefEqProofs only [rs_typing_Valid, Bool.not_eq_true', Bool.not_eq_false', go_sem, eq_self, Nat.reduceEqDiff, Nat.reduceBEq, Nat.reduceAdd, Nat.reduceLeDiff, reduceIte, reduceCtorEq, tysA, tyA, Ty.enc, Ty.encs]))
      | (refine Run.retP g_typing_Valid (σ2 := σ) (le_set (Heap.le_refl _) hj) ?_; (try simp -implicitDefEqProofs only [rs_typing_Valid, Bool.not_eq_true', Bool.not_eq_false', go_sem, eq_self, Nat.reduceEqDiff, Nat.reduceBEq, Nat.reduceAdd, Nat.reduceLeDiff, reduceIte, reduceCtorEq, tysA, tyA, Ty.enc, Ty.encs]))
      | (refine xo_gs rfl (fun h => ?_) (fun h => ?_) <;> first | (cases h; done) | simp -implicitDefEqProofs only [rs_typing_Valid, Bool.not_eq_true', Bool.not_eq_false', go_sem, eq_self, Nat.reduceEqDiff, Nat.reduceBEq, Nat.reduceAdd, Nat.reduceLeDiff, reduceIte, reduceCtorEq, tysA, tyA, Ty.enc, Ty.encs])
      | (refine ⟨fun h => ?_, fun h => ?_⟩ <;> first | (cases h; done) | (simp -implicitDefEqProofs only [h]; done) | (try simp -implicitDefEqProofs only [h]))
      | fail))
  rw [hb]
end Go.Ab
