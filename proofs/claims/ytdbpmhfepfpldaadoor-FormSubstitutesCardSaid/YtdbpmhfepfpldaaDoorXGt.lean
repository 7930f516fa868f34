/- Substitution in forms. Conditions: none. -/
import Derived.Test.YtdbpmhfepfpldaaDoorXGs
import Derived.Test.YtdbpmhfepfpldaaDoorXGe
set_option linter.unusedSimpArgs false
set_option linter.unusedVariables false
namespace Go.Ab
open Go.Proofs

def idxN : List Int → Int → Option Nat
  | [], _ => none
  | x :: l, v => if x = v then some 0 else (idxN l v).map (· + 1)
theorem idxN_snoc (v x : Int) : ∀ l : List Int, idxN (l ++ [x]) v = match idxN l v with | some q => some q | none => if x = v then some l.length else none
  | [] => by simp [idxN]
  | y :: l => by
    simp only [List.cons_append, idxN]
    split
    · rfl
    · rw [idxN_snoc v x l]
      cases idxN l v with
      | some q => rfl
      | none => simp only [Option.map_none]; split <;> simp
theorem idxN_none {v : Int} : ∀ {l : List Int}, v ∉ l → idxN l v = none
  | [], _ => rfl
  | y :: l, h => by
    simp only [List.mem_cons, not_or] at h
    rw [idxN, if_neg (fun e => h.1 e.symm), idxN_none h.2]; rfl
theorem idxN_at {v : Int} : ∀ {l : List Int} {k : Nat}, v ∉ l.take k → l[k]? = some v → idxN l v = some k
  | [], k, _, h => by simp at h
  | y :: l, 0, _, h => by
    simp only [List.getElem?_cons_zero, Option.some.injEq] at h
    rw [idxN, if_pos h]
  | y :: l, k + 1, hn, h => by
    simp only [List.take_succ_cons, List.mem_cons, not_or] at hn
    rw [idxN, if_neg (fun e => hn.1 e.symm), idxN_at hn.2 (by simpa using h)]; rfl
theorem idxN_get {v : Int} : ∀ {l : List Int} {k : Nat}, idxN l v = some k → l[k]? = some v
  | [], k, h => by simp [idxN] at h
  | y :: l, k, h => by
    rw [idxN] at h
    split at h
    · rename_i e; cases h; simp [e]
    · simp only [Option.map_eq_some_iff] at h
      obtain ⟨q, hq, rfl⟩ := h
      simpa using idxN_get hq
def idxI (l : List Int) (v : Int) : Int := match idxN l v with | some k => (k : Int) | none => -1

theorem Index_ok (l : List Int) (v : Int) (σ : Heap) (hl : l.length ≤ 1000000) : ACalls Tryd.prog 77 [isA l, .d (.int .i64 v)] σ (fun u σ' => u = .d (.int .i64 (idxI l v)) ∧ σ' = σ) := by
  refine i_slices_Index_int (by simp) ?_
  rw [argF_2, isA]
  (repeat' (first
      | refine Run.seq ?_
      | refine Run.skip ?_
      | refine Run.block ?_
      | refine Run.blk ?_
      | refine Run.scope ?_
      | refine Run.scp ?_
      | (refine Run.exit rfl ?_)
      | (refine Run.reg mixed ?_; simp -implicitDefEqProofs only [List.length_map, rs_slices_Index_int, Bool.not_eq_true', Bool.not_eq_false', go_sem, eq_self, Nat.reduceEqDiff, Nat.reduceBEq, Nat.reduceAdd, Nat.reduceLeDiff, reduceIte, reduceCtorEq, tysA, tyA, Ty.enc, Ty.encs])
      | (refine Run.condM ?_; simp -implicitDefEqProofs only [List.length_map, rs_slices_Index_int, Bool.not_eq_true', Bool.not_eq_false', go_sem, eq_self, Nat.reduceEqDiff, Nat.reduceBEq, Nat.reduceAdd, Nat.reduceLeDiff, reduceIte, reduceCtorEq, tysA, tyA, Ty.enc, Ty.encs])
      | (refine xo_gs rfl (fun h => ?_) (fun h => ?_) <;> first | (cases h; done) | simp -implicitDefEqProofs only [List.length_map, rs_slices_Index_int, Bool.not_eq_true', Bool.not_eq_false', go_sem, eq_self, Nat.reduceEqDiff, Nat.reduceBEq, Nat.reduceAdd, Nat.reduceLeDiff, reduceIte, reduceCtorEq, tysA, tyA, Ty.enc, Ty.encs])
      | (refine ⟨fun h => ?_, fun h => ?_⟩ <;> first | (cases h; done) | (simp -implicitDefEqProofs only [h]; done) | (try simp -implicitDefEqProofs only [h]))
      | fail))
  refine Run.loopA ?_
  refine Run.loopI ((fun (a0 : AV) (a1 : AV) (a7 : AV) => fun (i : Nat) => put 0 a0 (put 1 a1 (put 7 a7 (put 8 (.d (.int .i64 i)) U)))) _ _ _) (fun _ => E) (fun _ => σ) (fun i => i ≤ l.length ∧ v ∉ l.take i) (fun i => l.length - i) ?_ 0 ⟨by simp, by simp⟩
  rintro i ⟨hi, hno⟩ ih
  by_cases hlt : i < l.length
  · obtain ⟨x, hx⟩ := ex_at hlt
    have hx' := int_at hx
    have hw1 := wrap_succ (show i + 1 ≤ 9000000000000000000 by omega)
    by_cases he : v = x
    · (repeat' (first
      | refine Run.seq ?_
      | refine Run.skip ?_
      | refine Run.block ?_
      | refine Run.blk ?_
      | refine Run.scope ?_
      | refine Run.scp ?_
      | (refine Run.exit rfl ?_)
      | (refine Run.reg mixed ?_; simp -implicitDefEqProofs only [lt_t hlt, hx', beqT he, rs_slices_Index_int, Bool.not_eq_true', Bool.not_eq_false', go_sem, eq_self, Nat.reduceEqDiff, Nat.reduceBEq, Nat.reduceAdd, Nat.reduceLeDiff, reduceIte, reduceCtorEq, tysA, tyA, Ty.enc, Ty.encs])
      | (refine Run.condM ?_; simp -implicitDefEqProofs only [lt_t hlt, hx', beqT he, rs_slices_Index_int, Bool.not_eq_true', Bool.not_eq_false', go_sem, eq_self, Nat.reduceEqDiff, Nat.reduceBEq, Nat.reduceAdd, Nat.reduceLeDiff, reduceIte, reduceCtorEq, tysA, tyA, Ty.enc, Ty.encs])
      | (refine Run.retP g_slices_Index_int (Heap.le_refl _) ?_; simp -implicitDefEqProofs only [rs_slices_Index_int, lt_t hlt, hx', beqT he, go_sem, eq_self, Nat.reduceEqDiff, Nat.reduceBEq, Nat.reduceAdd, Nat.reduceLeDiff, reduceIte, reduceCtorEq, tysA, tyA, Ty.enc, Ty.encs])
      | (refine xo_gs rfl (fun h => ?_) (fun h => ?_) <;> first | (cases h; done) | simp -implicitDefEqProofs only [lt_t hlt, hx', beqT he, rs_slices_Index_int, Bool.not_eq_true', Bool.not_eq_false', go_sem, eq_self, Nat.reduceEqDiff, Nat.reduceBEq, Nat.reduceAdd, Nat.reduceLeDiff, reduceIte, reduceCtorEq, tysA, tyA, Ty.enc, Ty.encs])
      | (refine ⟨fun h => ?_, fun h => ?_⟩ <;> first | (cases h; done) | (simp -implicitDefEqProofs only [h]; done) | (try simp -implicitDefEqProofs only [h]))
      | fail))
      rw [idxI, idxN_at hno (by rw [hx, he])]
    · (repeat' (first
      | refine Run.seq ?_
      | refine Run.skip ?_
      | refine Run.block ?_
      | refine Run.blk ?_
      | refine Run.scope ?_
      | refine Run.scp ?_
      | (refine Run.exit rfl ?_)
      | (refine Run.reg mixed ?_; simp -implicitDefEqProofs only [lt_t hlt, hx', beqF he, hw1, rs_slices_Index_int, Bool.not_eq_true', Bool.not_eq_false', go_sem, eq_self, Nat.reduceEqDiff, Nat.reduceBEq, Nat.reduceAdd, Nat.reduceLeDiff, reduceIte, reduceCtorEq, tysA, tyA, Ty.enc, Ty.encs])
      | (refine Run.condM ?_; simp -implicitDefEqProofs only [lt_t hlt, hx', beqF he, hw1, rs_slices_Index_int, Bool.not_eq_true', Bool.not_eq_false', go_sem, eq_self, Nat.reduceEqDiff, Nat.reduceBEq, Nat.reduceAdd, Nat.reduceLeDiff, reduceIte, reduceCtorEq, tysA, tyA, Ty.enc, Ty.encs])
      | (refine Run.retP g_slices_Index_int (Heap.le_refl _) ?_; simp -implicitDefEqProofs only [rs_slices_Index_int, lt_t hlt, hx', beqF he, hw1, go_sem, eq_self, Nat.reduceEqDiff, Nat.reduceBEq, Nat.reduceAdd, Nat.reduceLeDiff, reduceIte, reduceCtorEq, tysA, tyA, Ty.enc, Ty.encs])
      | (refine xo_gs rfl (fun h => ?_) (fun h => ?_) <;> first | (cases h; done) | simp -implicitDefEqProofs only [lt_t hlt, hx', beqF he, hw1, rs_slices_Index_int, Bool.not_eq_true', Bool.not_eq_false', go_sem, eq_self, Nat.reduceEqDiff, Nat.reduceBEq, Nat.reduceAdd, Nat.reduceLeDiff, reduceIte, reduceCtorEq, tysA, tyA, Ty.enc, Ty.encs])
      | (refine ⟨fun h => ?_, fun h => ?_⟩ <;> first | (cases h; done) | (simp -implicitDefEqProofs only [h]; done) | (try simp -implicitDefEqProofs only [h]))
      | fail))
      refine ih (i + 1) ⟨by omega, ?_⟩ (by omega)
      rw [List.take_add_one, hx]
      simp only [Option.toList_some, List.mem_append, List.mem_singleton, not_or]
      exact ⟨hno, he⟩
  · (repeat' (first
      | refine Run.seq ?_
      | refine Run.skip ?_
      | refine Run.block ?_
      | refine Run.blk ?_
      | refine Run.scope ?_
      | refine Run.scp ?_
      | (refine Run.exit rfl ?_)
      | (refine Run.reg mixed ?_; simp -implicitDefEqProofs only [lt_f hlt, rs_slices_Index_int, Bool.not_eq_true', Bool.not_eq_false', go_sem, eq_self, Nat.reduceEqDiff, Nat.reduceBEq, Nat.reduceAdd, Nat.reduceLeDiff, reduceIte, reduceCtorEq, tysA, tyA, Ty.enc, Ty.encs])
      | (refine Run.condM ?_; simp -implicitDefEqProofs only [lt_f hlt, rs_slices_Index_int, Bool.not_eq_true', Bool.not_eq_false', go_sem, eq_self, Nat.reduceEqDiff, Nat.reduceBEq, Nat.reduceAdd, Nat.reduceLeDiff, reduceIte, reduceCtorEq, tysA, tyA, Ty.enc, Ty.encs])
      | (refine Run.retP g_slices_Index_int (Heap.le_refl _) ?_; simp -implicitDefEqProofs only [rs_slices_Index_int, lt_f hlt, go_sem, eq_self, Nat.reduceEqDiff, Nat.reduceBEq, Nat.reduceAdd, Nat.reduceLeDiff, reduceIte, reduceCtorEq, tysA, tyA, Ty.enc, Ty.encs])
      | (refine xo_gs rfl (fun h => ?_) (fun h => ?_) <;> first | (cases h; done) | simp -implicitDefEqProofs only [lt_f hlt, rs_slices_Index_int, Bool.not_eq_true', Bool.not_eq_false', go_sem, eq_self, Nat.reduceEqDiff, Nat.reduceBEq, Nat.reduceAdd, Nat.reduceLeDiff, reduceIte, reduceCtorEq, tysA, tyA, Ty.enc, Ty.encs])
      | (refine ⟨fun h => ?_, fun h => ?_⟩ <;> first | (cases h; done) | (simp -implicitDefEqProofs only [h]; done) | (try simp -implicitDefEqProofs only [h]))
      | fail))
    rw [List.take_of_length_le (by omega)] at hno
    rw [idxI, idxN_none hno]

theorem notValid_ok (l : Ln) (σ : Heap) : ACalls Tryd.prog 75 [linA l] σ (fun v σ' => v = .d (.bool (!validP l)) ∧ σ' = σ) := by
  obtain ⟨c, ts⟩ := l
  refine i_linear_Subst_1 (by simp) ?_
  rw [argF_1, linA]
  (repeat' (first
      | refine Run.seq ?_
      | refine Run.skip ?_
      | refine Run.block ?_
      | refine Run.blk ?_
      | refine Run.scope ?_
      | refine Run.scp ?_
      | (refine Run.exit rfl ?_)
      | (refine Run.reg mixed ?_; simp -implicitDefEqProofs only [rs_linear_Subst_1, Bool.not_eq_true', Bool.not_eq_false', go_sem, eq_self, Nat.reduceEqDiff, Nat.reduceBEq, Nat.reduceAdd, Nat.reduceLeDiff, reduceIte, reduceCtorEq, tysA, tyA, Ty.enc, Ty.encs])
      | (refine Run.condM ?_; simp -implicitDefEqProofs only [rs_linear_Subst_1, Bool.not_eq_true', Bool.not_eq_false', go_sem, eq_self, Nat.reduceEqDiff, Nat.reduceBEq, Nat.reduceAdd, Nat.reduceLeDiff, reduceIte, reduceCtorEq, tysA, tyA, Ty.enc, Ty.encs])
      | (refine Run.retP g_linear_Subst_1 (Heap.le_refl _) ?_; simp -implicitDefEqProofs only [rs_linear_Subst_1, go_sem, eq_self, Nat.reduceEqDiff, Nat.reduceBEq, Nat.reduceAdd, Nat.reduceLeDiff, reduceIte, reduceCtorEq, tysA, tyA, Ty.enc, Ty.encs])
      | (refine XCall.det (linear_Valid_ok ⟨c, ts⟩ _) ?_; simp -implicitDefEqProofs only [rs_linear_Subst_1, Bool.not_eq_true', Bool.not_eq_false', go_sem, eq_self, Nat.reduceEqDiff, Nat.reduceBEq, Nat.reduceAdd, Nat.reduceLeDiff, reduceIte, reduceCtorEq, tysA, tyA, Ty.enc, Ty.encs])
      | (refine xo_gs rfl (fun h => ?_) (fun h => ?_) <;> first | (cases h; done) | simp -implicitDefEqProofs only [rs_linear_Subst_1, Bool.not_eq_true', Bool.not_eq_false', go_sem, eq_self, Nat.reduceEqDiff, Nat.reduceBEq, Nat.reduceAdd, Nat.reduceLeDiff, reduceIte, reduceCtorEq, tysA, tyA, Ty.enc, Ty.encs])
      | (refine ⟨fun h => ?_, fun h => ?_⟩ <;> first | (cases h; done) | (simp -implicitDefEqProofs only [h]; done) | (try simp -implicitDefEqProofs only [h]))
      | fail))

theorem all_takeL {p : Ln → Bool} {l : List Ln} {i : Nat} {x : Ln} (h : (l.take i).all p = true) (hx : l[i]? = some x) (hp : p x = true) : (l.take (i + 1)).all p = true := by
  rw [List.take_add_one, hx, List.all_append, h]; simpa using hp
theorem not_allL {p : Ln → Bool} {l : List Ln} {i : Nat} {x : Ln} (hx : l[i]? = some x) (hp : p x = false) : l.all p = false := by
  rw [Bool.eq_false_iff]
  intro h
  rw [List.all_eq_true] at h
  rw [h x (List.mem_of_getElem? hx)] at hp; cases hp

theorem IndexFunc_ok (l : List Ln) (σ : Heap) (hl : l.length ≤ 1000000) : ACalls Tryd.prog 98 [linsA l, .fn 75 [] []] σ (fun v σ' => (∃ n : Int, v = .d (.int .i64 n) ∧ decide (0 ≤ n) = !l.all validP) ∧ σ' = σ) := by
  refine i_slices_IndexFunc_api_Lin (by simp) ?_
  rw [argF_2, linsA]
  (repeat' (first
      | refine Run.seq ?_
      | refine Run.skip ?_
      | refine Run.block ?_
      | refine Run.blk ?_
      | refine Run.scope ?_
      | refine Run.scp ?_
      | (refine Run.exit rfl ?_)
      | (refine Run.reg mixed ?_; simp -implicitDefEqProofs only [List.length_map, rs_slices_IndexFunc_api_Lin, Bool.not_eq_true', Bool.not_eq_false', go_sem, eq_self, Nat.reduceEqDiff, Nat.reduceBEq, Nat.reduceAdd, Nat.reduceLeDiff, reduceIte, reduceCtorEq, tysA, tyA, Ty.enc, Ty.encs])
      | (refine Run.condM ?_; simp -implicitDefEqProofs only [List.length_map, rs_slices_IndexFunc_api_Lin, Bool.not_eq_true', Bool.not_eq_false', go_sem, eq_self, Nat.reduceEqDiff, Nat.reduceBEq, Nat.reduceAdd, Nat.reduceLeDiff, reduceIte, reduceCtorEq, tysA, tyA, Ty.enc, Ty.encs])
      | (refine xo_gs rfl (fun h => ?_) (fun h => ?_) <;> first | (cases h; done) | simp -implicitDefEqProofs only [List.length_map, rs_slices_IndexFunc_api_Lin, Bool.not_eq_true', Bool.not_eq_false', go_sem, eq_self, Nat.reduceEqDiff, Nat.reduceBEq, Nat.reduceAdd, Nat.reduceLeDiff, reduceIte, reduceCtorEq, tysA, tyA, Ty.enc, Ty.encs])
      | (refine ⟨fun h => ?_, fun h => ?_⟩ <;> first | (cases h; done) | (simp -implicitDefEqProofs only [h]; done) | (try simp -implicitDefEqProofs only [h]))
      | fail))
  refine Run.loopA ?_
  refine Run.loopI ((fun (a0 : AV) (a1 : AV) (a7 : AV) => fun (i : Nat) => put 0 a0 (put 1 a1 (put 7 a7 (put 8 (.d (.int .i64 i)) U)))) _ _ _) (fun _ => E) (fun _ => σ) (fun i => i ≤ l.length ∧ (l.take i).all validP = true) (fun i => l.length - i) ?_ 0 ⟨by simp, by simp⟩
  rintro i ⟨hi, hok⟩ ih
  by_cases hlt : i < l.length
  · obtain ⟨x, hx⟩ := ex_at hlt
    have hx' := lin_at hx
    have hw1 := wrap_succ (show i + 1 ≤ 9000000000000000000 by omega)
    cases hv : validP x with
    | false =>
      (repeat' (first
      | refine Run.seq ?_
      | refine Run.skip ?_
      | refine Run.block ?_
      | refine Run.blk ?_
      | refine Run.scope ?_
      | refine Run.scp ?_
      | (refine Run.exit rfl ?_)
      | (refine Run.reg mixed ?_; simp -implicitDefEqProofs only [lt_t hlt, hx', hv, rs_slices_IndexFunc_api_Lin, Bool.not_eq_true', Bool.not_eq_false', go_sem, eq_self, Nat.reduceEqDiff, Nat.reduceBEq, Nat.reduceAdd, Nat.reduceLeDiff, reduceIte, reduceCtorEq, tysA, tyA, Ty.enc, Ty.encs])
      | (refine Run.condM ?_; simp -implicitDefEqProofs only [lt_t hlt, hx', hv, rs_slices_IndexFunc_api_Lin, Bool.not_eq_true', Bool.not_eq_false', go_sem, eq_self, Nat.reduceEqDiff, Nat.reduceBEq, Nat.reduceAdd, Nat.reduceLeDiff, reduceIte, reduceCtorEq, tysA, tyA, Ty.enc, Ty.encs])
      | (refine ⟨_, [], [], rfl, by kernel_rfl, ?_⟩; (try simp -implicitDefEqProofs only [lt_t hlt, hx', hv, rs_slices_IndexFunc_api_Lin, Bool.not_eq_true', Bool.not_eq_false', go_sem, eq_self, Nat.reduceEqDiff, Nat.reduceBEq, Nat.reduceAdd, Nat.reduceLeDiff, reduceIte, reduceCtorEq, tysA, tyA, Ty.enc, Ty.encs]))
      | (refine Run.retP g_slices_IndexFunc_api_Lin (Heap.le_refl _) ?_; simp -implicitDefEqProofs only [rs_slices_IndexFunc_api_Lin, lt_t hlt, hx', hv, go_sem, eq_self, Nat.reduceEqDiff, Nat.reduceBEq, Nat.reduceAdd, Nat.reduceLeDiff, reduceIte, reduceCtorEq, tysA, tyA, Ty.enc, Ty.encs])
      | (refine XCall.det (notValid_ok x _) ?_; simp -implicitDefEqProofs only [lt_t hlt, hx', hv, rs_slices_IndexFunc_api_Lin, Bool.not_eq_true', Bool.not_eq_false', go_sem, eq_self, Nat.reduceEqDiff, Nat.reduceBEq, Nat.reduceAdd, Nat.reduceLeDiff, reduceIte, reduceCtorEq, tysA, tyA, Ty.enc, Ty.encs])
      | (refine xo_gs rfl (fun h => ?_) (fun h => ?_) <;> first | (cases h; done) | simp -implicitDefEqProofs only [lt_t hlt, hx', hv, rs_slices_IndexFunc_api_Lin, Bool.not_eq_true', Bool.not_eq_false', go_sem, eq_self, Nat.reduceEqDiff, Nat.reduceBEq, Nat.reduceAdd, Nat.reduceLeDiff, reduceIte, reduceCtorEq, tysA, tyA, Ty.enc, Ty.encs])
      | (refine ⟨fun h => ?_, fun h => ?_⟩ <;> first | (cases h; done) | (simp -implicitDefEqProofs only [h]; done) | (try simp -implicitDefEqProofs only [h]))
      | fail))
      refine ⟨_, rfl, ?_⟩
      rw [not_allL hx hv]; simp
    | true =>
      (repeat' (first
      | refine Run.seq ?_
      | refine Run.skip ?_
      | refine Run.block ?_
      | refine Run.blk ?_
      | refine Run.scope ?_
      | refine Run.scp ?_
      | (refine Run.exit rfl ?_)
      | (refine Run.reg mixed ?_; simp -implicitDefEqProofs only [lt_t hlt, hx', hv, hw1, rs_slices_IndexFunc_api_Lin, Bool.not_eq_true', Bool.not_eq_false', go_sem, eq_self, Nat.reduceEqDiff, Nat.reduceBEq, Nat.reduceAdd, Nat.reduceLeDiff, reduceIte, reduceCtorEq, tysA, tyA, Ty.enc, Ty.encs])
      | (refine Run.condM ?_; simp -implicitDefEqProofs only [lt_t hlt, hx', hv, hw1, rs_slices_IndexFunc_api_Lin, Bool.not_eq_true', Bool.not_eq_false', go_sem, eq_self, Nat.reduceEqDiff, Nat.reduceBEq, Nat.reduceAdd, Nat.reduceLeDiff, reduceIte, reduceCtorEq, tysA, tyA, Ty.enc, Ty.encs])
      | (refine ⟨_, [], [], rfl, by kernel_rfl, ?_⟩; (try simp -implicitDefEqProofs only [lt_t hlt, hx', hv, hw1, rs_slices_IndexFunc_api_Lin, Bool.not_eq_true', Bool.not_eq_false', go_sem, eq_self, Nat.reduceEqDiff, Nat.reduceBEq, Nat.reduceAdd, Nat.reduceLeDiff, reduceIte, reduceCtorEq, tysA, tyA, Ty.enc, Ty.encs]))
      | (refine Run.retP g_slices_IndexFunc_api_Lin (Heap.le_refl _) ?_; simp -implicitDefEqProofs only [rs_slices_IndexFunc_api_Lin, lt_t hlt, hx', hv, hw1, go_sem, eq_self, Nat.reduceEqDiff, Nat.reduceBEq, Nat.reduceAdd, Nat.reduceLeDiff, reduceIte, reduceCtorEq, tysA, tyA, Ty.enc, Ty.encs])
      | (refine XCall.det (notValid_ok x _) ?_; simp -implicitDefEqProofs only [lt_t hlt, hx', hv, hw1, rs_slices_IndexFunc_api_Lin, Bool.not_eq_true', Bool.not_eq_false', go_sem, eq_self, Nat.reduceEqDiff, Nat.reduceBEq, Nat.reduceAdd, Nat.reduceLeDiff, reduceIte, reduceCtorEq, tysA, tyA, Ty.enc, Ty.encs])
      | (refine xo_gs rfl (fun h => ?_) (fun h => ?_) <;> first | (cases h; done) | simp -implicitDefEqProofs only [lt_t hlt, hx', hv, hw1, rs_slices_IndexFunc_api_Lin, Bool.not_eq_true', Bool.not_eq_false', go_sem, eq_self, Nat.reduceEqDiff, Nat.reduceBEq, Nat.reduceAdd, Nat.reduceLeDiff, reduceIte, reduceCtorEq, tysA, tyA, Ty.enc, Ty.encs])
      | (refine ⟨fun h => ?_, fun h => ?_⟩ <;> first | (cases h; done) | (simp -implicitDefEqProofs only [h]; done) | (try simp -implicitDefEqProofs only [h]))
      | fail))
      exact ih (i + 1) ⟨by omega, all_takeL hok hx hv⟩ (by omega)
  · (repeat' (first
      | refine Run.seq ?_
      | refine Run.skip ?_
      | refine Run.block ?_
      | refine Run.blk ?_
      | refine Run.scope ?_
      | refine Run.scp ?_
      | (refine Run.exit rfl ?_)
      | (refine Run.reg mixed ?_; simp -implicitDefEqProofs only [lt_f hlt, rs_slices_IndexFunc_api_Lin, Bool.not_eq_true', Bool.not_eq_false', go_sem, eq_self, Nat.reduceEqDiff, Nat.reduceBEq, Nat.reduceAdd, Nat.reduceLeDiff, reduceIte, reduceCtorEq, tysA, tyA, Ty.enc, Ty.encs])
      | (refine Run.condM ?_; simp -implicitDefEqProofs only [lt_f hlt, rs_slices_IndexFunc_api_Lin, Bool.not_eq_true', Bool.not_eq_false', go_sem, eq_self, Nat.reduceEqDiff, Nat.reduceBEq, Nat.reduceAdd, Nat.reduceLeDiff, reduceIte, reduceCtorEq, tysA, tyA, Ty.enc, Ty.encs])
      | (refine Run.retP g_slices_IndexFunc_api_Lin (Heap.le_refl _) ?_; simp -implicitDefEqProofs only [rs_slices_IndexFunc_api_Lin, lt_f hlt, go_sem, eq_self, Nat.reduceEqDiff, Nat.reduceBEq, Nat.reduceAdd, Nat.reduceLeDiff, reduceIte, reduceCtorEq, tysA, tyA, Ty.enc, Ty.encs])
      | (refine xo_gs rfl (fun h => ?_) (fun h => ?_) <;> first | (cases h; done) | simp -implicitDefEqProofs only [lt_f hlt, rs_slices_IndexFunc_api_Lin, Bool.not_eq_true', Bool.not_eq_false', go_sem, eq_self, Nat.reduceEqDiff, Nat.reduceBEq, Nat.reduceAdd, Nat.reduceLeDiff, reduceIte, reduceCtorEq, tysA, tyA, Ty.enc, Ty.encs])
      | (refine ⟨fun h => ?_, fun h => ?_⟩ <;> first | (cases h; done) | (simp -implicitDefEqProofs only [h]; done) | (try simp -implicitDefEqProofs only [h]))
      | fail))
    rw [List.take_of_length_le (by omega)] at hok
    exact ⟨_, rfl, by rw [hok]; rfl⟩

theorem ContainsFunc_ok (l : List Ln) (σ : Heap) (hl : l.length ≤ 1000000) : ACalls Tryd.prog 74 [linsA l, .fn 75 [] []] σ (fun v σ' => v = .d (.bool (!l.all validP)) ∧ σ' = σ) := by
  refine i_slices_ContainsFunc_api_Lin (by simp) ?_
  rw [argF_2, linsA]
  (repeat' (first
      | refine Run.seq ?_
      | refine Run.skip ?_
      | refine Run.block ?_
      | refine Run.blk ?_
      | refine Run.scope ?_
      | refine Run.scp ?_
      | (refine Run.exit rfl ?_)
      | (refine Run.reg mixed ?_; simp -implicitDefEqProofs only [rs_slices_ContainsFunc_api_Lin, Bool.not_eq_true', Bool.not_eq_false', go_sem, eq_self, Nat.reduceEqDiff, Nat.reduceBEq, Nat.reduceAdd, Nat.reduceLeDiff, reduceIte, reduceCtorEq, tysA, tyA, Ty.enc, Ty.encs])
      | (refine Run.condM ?_; simp -implicitDefEqProofs only [rs_slices_ContainsFunc_api_Lin, Bool.not_eq_true', Bool.not_eq_false', go_sem, eq_self, Nat.reduceEqDiff, Nat.reduceBEq, Nat.reduceAdd, Nat.reduceLeDiff, reduceIte, reduceCtorEq, tysA, tyA, Ty.enc, Ty.encs])
      | (refine XCall.mk rfl (IndexFunc_ok l σ hl) ?_; rintro _ _ ⟨⟨n, rfl, hn⟩, rfl⟩; (try simp -implicitDefEqProofs only [rs_slices_ContainsFunc_api_Lin, Bool.not_eq_true', Bool.not_eq_false', go_sem, eq_self, Nat.reduceEqDiff, Nat.reduceBEq, Nat.reduceAdd, Nat.reduceLeDiff, reduceIte, reduceCtorEq, tysA, tyA, Ty.enc, Ty.encs]))
      | (refine xo_gs rfl (fun h => ?_) (fun h => ?_) <;> first | (cases h; done) | simp -implicitDefEqProofs only [rs_slices_ContainsFunc_api_Lin, Bool.not_eq_true', Bool.not_eq_false', go_sem, eq_self, Nat.reduceEqDiff, Nat.reduceBEq, Nat.reduceAdd, Nat.reduceLeDiff, reduceIte, reduceCtorEq, tysA, tyA, Ty.enc, Ty.encs])
      | (refine ⟨fun h => ?_, fun h => ?_⟩ <;> first | (cases h; done) | (simp -implicitDefEqProofs only [h]; done) | (try simp -implicitDefEqProofs only [h]))
      | fail))
  simp -implicitDefEqProofs only [hn, go_sem, eq_self, Nat.reduceEqDiff, Nat.reduceBEq, Nat.reduceAdd, Nat.reduceLeDiff, reduceIte, reduceCtorEq, tysA, tyA, Ty.enc, Ty.encs]
  (repeat' (first
      | refine Run.seq ?_
      | refine Run.skip ?_
      | refine Run.block ?_
      | refine Run.blk ?_
      | refine Run.scope ?_
      | refine Run.scp ?_
      | (refine Run.exit rfl ?_)
      | (refine Run.reg mixed ?_; simp -implicitDefEqProofs only [hn, rs_slices_ContainsFunc_api_Lin, Bool.not_eq_true', Bool.not_eq_false', go_sem, eq_self, Nat.reduceEqDiff, Nat.reduceBEq, Nat.reduceAdd, Nat.reduceLeDiff, reduceIte, reduceCtorEq, tysA, tyA, Ty.enc, Ty.encs])
      | (refine Run.condM ?_; simp -implicitDefEqProofs only [hn, rs_slices_ContainsFunc_api_Lin, Bool.not_eq_true', Bool.not_eq_false', go_sem, eq_self, Nat.reduceEqDiff, Nat.reduceBEq, Nat.reduceAdd, Nat.reduceLeDiff, reduceIte, reduceCtorEq, tysA, tyA, Ty.enc, Ty.encs])
      | (refine Run.retP g_slices_ContainsFunc_api_Lin (Heap.le_refl _) ?_; simp -implicitDefEqProofs only [rs_slices_ContainsFunc_api_Lin, hn, go_sem, eq_self, Nat.reduceEqDiff, Nat.reduceBEq, Nat.reduceAdd, Nat.reduceLeDiff, reduceIte, reduceCtorEq, tysA, tyA, Ty.enc, Ty.encs])
      | (refine xo_gs rfl (fun h => ?_) (fun h => ?_) <;> first | (cases h; done) | simp -implicitDefEqProofs only [hn, rs_slices_ContainsFunc_api_Lin, Bool.not_eq_true', Bool.not_eq_false', go_sem, eq_self, Nat.reduceEqDiff, Nat.reduceBEq, Nat.reduceAdd, Nat.reduceLeDiff, reduceIte, reduceCtorEq, tysA, tyA, Ty.enc, Ty.encs])
      | (refine ⟨fun h => ?_, fun h => ?_⟩ <;> first | (cases h; done) | (simp -implicitDefEqProofs only [h]; done) | (try simp -implicitDefEqProofs only [h]))
      | fail))

/-! ### What Subst computes -/

def pickF (vars : List Int) (bs : List Ln) (v : Int) : Ln := match idxN vars v with | some k => (bs[k]?).getD ⟨0, []⟩ | none => ⟨0, [(v, 1)]⟩
def subT (vars : List Int) (bs : List Ln) (t : Int × Int) : Tms := (pickF vars bs t.1).ts.map (mulT t.2)
def subC (vars : List Int) (bs : List Ln) (t : Int × Int) : Int := t.2 * (pickF vars bs t.1).c
def sumT (vars : List Int) (bs : List Ln) : Tms → Tms
  | [] => []
  | t :: l => subT vars bs t ++ sumT vars bs l
def sumC (vars : List Int) (bs : List Ln) : Tms → Int
  | [] => 0
  | t :: l => subC vars bs t + sumC vars bs l
def substP (l : Ln) (vars : List Int) (bs : List Ln) : Ln × Int :=
  if validP l && bs.all validP then (if vars.length = bs.length then (if dupB vars then errR 4 else chk (l.c + sumC vars bs l.ts) (canTs (sumT vars bs l.ts))) else errR 5) else errR 1

theorem sumT_snoc (vars : List Int) (bs : List Ln) (x : Int × Int) : ∀ l : Tms, sumT vars bs (l ++ [x]) = sumT vars bs l ++ subT vars bs x
  | [] => by simp [sumT]
  | y :: l => by simp [sumT, sumT_snoc vars bs x l]
theorem sumC_snoc (vars : List Int) (bs : List Ln) (x : Int × Int) : ∀ l : Tms, sumC vars bs (l ++ [x]) = sumC vars bs l + subC vars bs x
  | [] => by simp [sumC]
  | y :: l => by simp only [List.cons_append, sumC, sumC_snoc vars bs x l]; omega
theorem addAll_app : ∀ (l m acc : Tms), addAll acc (l ++ m) = addAll (addAll acc l) m
  | [], m, acc => rfl
  | x :: l, m, acc => by simp only [List.cons_append, addAll, addAll_app l m]

/-- A form that stands for a variable: small and short. -/
def SmL (l : Ln) : Prop := l.ts.length ≤ 16 ∧ (∀ x ∈ l.ts, -1048576 ≤ x.2 ∧ x.2 ≤ 1048576) ∧ -1048576 ≤ l.c ∧ l.c ≤ 1048576
theorem pick_sm {vars : List Int} {bs : List Ln} (hb : bs.all validP = true) (v : Int) : SmL (pickF vars bs v) := by
  unfold pickF
  split
  · rename_i k _
    cases hk : bs[k]? with
    | none => exact ⟨by simp, fun x hx => by simp at hx, by simp, by simp⟩
    | some m =>
      have := valid_facts ((List.all_eq_true.1 hb) m (List.mem_of_getElem? hk))
      exact this
  · refine ⟨by simp, fun x hx => ?_, by simp, by simp⟩
    simp only [List.mem_singleton] at hx; subst hx; simp
theorem subC_bd {vars : List Int} {bs : List Ln} (hb : bs.all validP = true) {t : Int × Int} (ht : -1048576 ≤ t.2 ∧ t.2 ≤ 1048576) : -1099511627776 ≤ subC vars bs t ∧ subC vars bs t ≤ 1099511627776 :=
  mul_bd ht (pick_sm (vars := vars) hb t.1).2.2
theorem subT_bd {vars : List Int} {bs : List Ln} (hb : bs.all validP = true) {t : Int × Int} (ht : -1048576 ≤ t.2 ∧ t.2 ≤ 1048576) : Bnd 1099511627776 (subT vars bs t) := by
  intro x hx
  obtain ⟨y, hy, rfl⟩ := List.mem_map.1 hx
  exact mul_bd ((pick_sm (vars := vars) hb t.1).2.1 y hy) ht
theorem subT_len {vars : List Int} {bs : List Ln} (hb : bs.all validP = true) (t : Int × Int) : (subT vars bs t).length ≤ 16 := by
  rw [subT, List.length_map]; exact (pick_sm hb t.1).1
theorem sumC_bd {vars : List Int} {bs : List Ln} (hb : bs.all validP = true) : ∀ {l : Tms}, (∀ x ∈ l, -1048576 ≤ x.2 ∧ x.2 ≤ 1048576) → -1099511627776 * (l.length : Int) ≤ sumC vars bs l ∧ sumC vars bs l ≤ 1099511627776 * (l.length : Int)
  | [], _ => by simp [sumC]
  | x :: l, h => by
    have h1 := subC_bd (vars := vars) hb (h x (List.mem_cons_self ..))
    have h2 := sumC_bd (vars := vars) hb (l := l) (fun y hy => h y (List.mem_cons_of_mem _ hy))
    simp only [sumC, List.length_cons, Int.natCast_add]
    omega
theorem sumT_bd {vars : List Int} {bs : List Ln} (hb : bs.all validP = true) : ∀ {l : Tms}, (∀ x ∈ l, -1048576 ≤ x.2 ∧ x.2 ≤ 1048576) → Bnd 1099511627776 (sumT vars bs l) ∧ (sumT vars bs l).length ≤ 16 * l.length
  | [], _ => ⟨(by intro x hx; cases hx), by simp [sumT]⟩
  | x :: l, h => by
    have h1 := subT_bd (vars := vars) hb (h x (List.mem_cons_self ..))
    have h3 := subT_len (vars := vars) hb x
    have h2 := sumT_bd (vars := vars) hb (l := l) (fun y hy => h y (List.mem_cons_of_mem _ hy))
    refine ⟨fun y hy => ?_, ?_⟩
    · rcases List.mem_append.1 hy with hy | hy
      · exact h1 y hy
      · exact h2.1 y hy
    · simp only [sumT, List.length_append, List.length_cons]; omega

theorem collect_plain {n : Int} {ts : Tms} {v : AV} {σ : Heap} (hb : Bd ts) (hv : v.plain = .d (.sl (ts.map tmR))) : ACalls Tryd.prog 57 [.d (.int .i64 n), v] σ (fun u σ' => u = resA (chk n (canTs ts)) ∧ σ' = σ) :=
  ACalls.plain (by simp only [AV.plains, AV.plain, hv]; exact collect_ok n ts σ hb)

set_option maxHeartbeats 1000000 in
theorem linear_Subst_ok (l : Ln) (vars : List Int) (bs : List Ln) (σ : Heap) (hvl : vars.length ≤ 8) (hbl : bs.length ≤ 1000) :
    ACalls Tryd.prog 41 [linA l, isA vars, linsA bs] σ (fun v σ' => v = resA (substP l vars bs) ∧ σ' = σ) := by
  obtain ⟨c, ts⟩ := l
  refine i_linear_Subst (by simp) ?_
  rw [argF_3]
  simp only [linA, isA, linsA]
  cases hv : validP ⟨c, ts⟩ with
  | false =>
    (repeat' (first
      | refine Run.seq ?_
      | refine Run.skip ?_
      | refine Run.block ?_
      | refine Run.blk ?_
      | refine Run.scope ?_
      | refine Run.scp ?_
      | (refine Run.exit rfl ?_)
      | (refine Run.reg mixed ?_; simp -implicitDefEqProofs only [hv, rs_linear_Subst, Bool.not_eq_true', Bool.not_eq_false', go_sem, eq_self, Nat.reduceEqDiff, Nat.reduceBEq, Nat.reduceAdd, Nat.reduceLeDiff, reduceIte, reduceCtorEq, tysA, tyA, Ty.enc, Ty.encs])
      | (refine Run.condM ?_; simp -implicitDefEqProofs only [hv, rs_linear_Subst, Bool.not_eq_true', Bool.not_eq_false', go_sem, eq_self, Nat.reduceEqDiff, Nat.reduceBEq, Nat.reduceAdd, Nat.reduceLeDiff, reduceIte, reduceCtorEq, tysA, tyA, Ty.enc, Ty.encs])
      | (refine Run.retP g_linear_Subst (Heap.le_refl _) ?_; simp -implicitDefEqProofs only [rs_linear_Subst, hv, go_sem, eq_self, Nat.reduceEqDiff, Nat.reduceBEq, Nat.reduceAdd, Nat.reduceLeDiff, reduceIte, reduceCtorEq, tysA, tyA, Ty.enc, Ty.encs])
      | (refine XCall.det (linear_Valid_ok ⟨c, ts⟩ _) ?_; simp -implicitDefEqProofs only [hv, rs_linear_Subst, Bool.not_eq_true', Bool.not_eq_false', go_sem, eq_self, Nat.reduceEqDiff, Nat.reduceBEq, Nat.reduceAdd, Nat.reduceLeDiff, reduceIte, reduceCtorEq, tysA, tyA, Ty.enc, Ty.encs])
      | (refine xo_gs rfl (fun h => ?_) (fun h => ?_) <;> first | (cases h; done) | simp -implicitDefEqProofs only [hv, rs_linear_Subst, Bool.not_eq_true', Bool.not_eq_false', go_sem, eq_self, Nat.reduceEqDiff, Nat.reduceBEq, Nat.reduceAdd, Nat.reduceLeDiff, reduceIte, reduceCtorEq, tysA, tyA, Ty.enc, Ty.encs])
      | (refine ⟨fun h => ?_, fun h => ?_⟩ <;> first | (cases h; done) | (simp -implicitDefEqProofs only [h]; done) | (try simp -implicitDefEqProofs only [h]))
      | fail))
    simp [substP, hv, errR, resA, linA]
  | true =>
  cases hb : bs.all validP with
  | false =>
    (repeat' (first
      | refine Run.seq ?_
      | refine Run.skip ?_
      | refine Run.block ?_
      | refine Run.blk ?_
      | refine Run.scope ?_
      | refine Run.scp ?_
      | (refine Run.exit rfl ?_)
      | (refine Run.reg mixed ?_; simp -implicitDefEqProofs only [hv, hb, rs_linear_Subst, Bool.not_eq_true', Bool.not_eq_false', go_sem, eq_self, Nat.reduceEqDiff, Nat.reduceBEq, Nat.reduceAdd, Nat.reduceLeDiff, reduceIte, reduceCtorEq, tysA, tyA, Ty.enc, Ty.encs])
      | (refine Run.condM ?_; simp -implicitDefEqProofs only [hv, hb, rs_linear_Subst, Bool.not_eq_true', Bool.not_eq_false', go_sem, eq_self, Nat.reduceEqDiff, Nat.reduceBEq, Nat.reduceAdd, Nat.reduceLeDiff, reduceIte, reduceCtorEq, tysA, tyA, Ty.enc, Ty.encs])
      | (refine Run.retP g_linear_Subst (Heap.le_refl _) ?_; simp -implicitDefEqProofs only [rs_linear_Subst, hv, hb, go_sem, eq_self, Nat.reduceEqDiff, Nat.reduceBEq, Nat.reduceAdd, Nat.reduceLeDiff, reduceIte, reduceCtorEq, tysA, tyA, Ty.enc, Ty.encs])
      | (refine XCall.det (linear_Valid_ok ⟨c, ts⟩ _) ?_; simp -implicitDefEqProofs only [hv, hb, rs_linear_Subst, Bool.not_eq_true', Bool.not_eq_false', go_sem, eq_self, Nat.reduceEqDiff, Nat.reduceBEq, Nat.reduceAdd, Nat.reduceLeDiff, reduceIte, reduceCtorEq, tysA, tyA, Ty.enc, Ty.encs])
      | (refine XCall.det (ContainsFunc_ok bs _ (by omega)) ?_; simp -implicitDefEqProofs only [hv, hb, rs_linear_Subst, Bool.not_eq_true', Bool.not_eq_false', go_sem, eq_self, Nat.reduceEqDiff, Nat.reduceBEq, Nat.reduceAdd, Nat.reduceLeDiff, reduceIte, reduceCtorEq, tysA, tyA, Ty.enc, Ty.encs])
      | (refine xo_gs rfl (fun h => ?_) (fun h => ?_) <;> first | (cases h; done) | simp -implicitDefEqProofs only [hv, hb, rs_linear_Subst, Bool.not_eq_true', Bool.not_eq_false', go_sem, eq_self, Nat.reduceEqDiff, Nat.reduceBEq, Nat.reduceAdd, Nat.reduceLeDiff, reduceIte, reduceCtorEq, tysA, tyA, Ty.enc, Ty.encs])
      | (refine ⟨fun h => ?_, fun h => ?_⟩ <;> first | (cases h; done) | (simp -implicitDefEqProofs only [h]; done) | (try simp -implicitDefEqProofs only [h]))
      | fail))
    simp [substP, hb, errR, resA, linA]
  | true =>
  obtain ⟨h1, h2, h3, h4⟩ := valid_facts hv
  simp only at h1 h2 h3 h4
  by_cases hvb : vars.length = bs.length
  case neg =>
    have hne : ((vars.length : Int) != (bs.length : Int)) = true := by rw [neNat]; simpa using hvb
    (repeat' (first
      | refine Run.seq ?_
      | refine Run.skip ?_
      | refine Run.block ?_
      | refine Run.blk ?_
      | refine Run.scope ?_
      | refine Run.scp ?_
      | (refine Run.exit rfl ?_)
      | (refine Run.reg mixed ?_; simp -implicitDefEqProofs only [hv, hb, hne, List.length_map, rs_linear_Subst, Bool.not_eq_true', Bool.not_eq_false', go_sem, eq_self, Nat.reduceEqDiff, Nat.reduceBEq, Nat.reduceAdd, Nat.reduceLeDiff, reduceIte, reduceCtorEq, tysA, tyA, Ty.enc, Ty.encs])
      | (refine Run.condM ?_; simp -implicitDefEqProofs only [hv, hb, hne, List.length_map, rs_linear_Subst, Bool.not_eq_true', Bool.not_eq_false', go_sem, eq_self, Nat.reduceEqDiff, Nat.reduceBEq, Nat.reduceAdd, Nat.reduceLeDiff, reduceIte, reduceCtorEq, tysA, tyA, Ty.enc, Ty.encs])
      | (refine Run.retP g_linear_Subst (Heap.le_refl _) ?_; simp -implicitDefEqProofs only [rs_linear_Subst, hv, hb, hne, List.length_map, go_sem, eq_self, Nat.reduceEqDiff, Nat.reduceBEq, Nat.reduceAdd, Nat.reduceLeDiff, reduceIte, reduceCtorEq, tysA, tyA, Ty.enc, Ty.encs])
      | (refine XCall.det (linear_Valid_ok ⟨c, ts⟩ _) ?_; simp -implicitDefEqProofs only [hv, hb, hne, List.length_map, rs_linear_Subst, Bool.not_eq_true', Bool.not_eq_false', go_sem, eq_self, Nat.reduceEqDiff, Nat.reduceBEq, Nat.reduceAdd, Nat.reduceLeDiff, reduceIte, reduceCtorEq, tysA, tyA, Ty.enc, Ty.encs])
      | (refine XCall.det (ContainsFunc_ok bs _ (by omega)) ?_; simp -implicitDefEqProofs only [hv, hb, hne, List.length_map, rs_linear_Subst, Bool.not_eq_true', Bool.not_eq_false', go_sem, eq_self, Nat.reduceEqDiff, Nat.reduceBEq, Nat.reduceAdd, Nat.reduceLeDiff, reduceIte, reduceCtorEq, tysA, tyA, Ty.enc, Ty.encs])
      | (refine xo_gs rfl (fun h => ?_) (fun h => ?_) <;> first | (cases h; done) | simp -implicitDefEqProofs only [hv, hb, hne, List.length_map, rs_linear_Subst, Bool.not_eq_true', Bool.not_eq_false', go_sem, eq_self, Nat.reduceEqDiff, Nat.reduceBEq, Nat.reduceAdd, Nat.reduceLeDiff, reduceIte, reduceCtorEq, tysA, tyA, Ty.enc, Ty.encs])
      | (refine ⟨fun h => ?_, fun h => ?_⟩ <;> first | (cases h; done) | (simp -implicitDefEqProofs only [h]; done) | (try simp -implicitDefEqProofs only [h]))
      | fail))
    simp [substP, hv, hb, hvb, errR, resA, linA]
  have hne : ((vars.length : Int) != (bs.length : Int)) = false := by rw [neNat]; simpa using hvb
  cases hd : dupB vars with
  | true =>
    (repeat' (first
      | refine Run.seq ?_
      | refine Run.skip ?_
      | refine Run.block ?_
      | refine Run.blk ?_
      | refine Run.scope ?_
      | refine Run.scp ?_
      | (refine Run.exit rfl ?_)
      | (refine Run.reg mixed ?_; simp -implicitDefEqProofs only [hv, hb, hne, hd, List.length_map, rs_linear_Subst, Bool.not_eq_true', Bool.not_eq_false', go_sem, eq_self, Nat.reduceEqDiff, Nat.reduceBEq, Nat.reduceAdd, Nat.reduceLeDiff, reduceIte, reduceCtorEq, tysA, tyA, Ty.enc, Ty.encs])
      | (refine Run.condM ?_; simp -implicitDefEqProofs only [hv, hb, hne, hd, List.length_map, rs_linear_Subst, Bool.not_eq_true', Bool.not_eq_false', go_sem, eq_self, Nat.reduceEqDiff, Nat.reduceBEq, Nat.reduceAdd, Nat.reduceLeDiff, reduceIte, reduceCtorEq, tysA, tyA, Ty.enc, Ty.encs])
      | (refine Run.retP g_linear_Subst (Heap.le_refl _) ?_; simp -implicitDefEqProofs only [rs_linear_Subst, hv, hb, hne, hd, List.length_map, go_sem, eq_self, Nat.reduceEqDiff, Nat.reduceBEq, Nat.reduceAdd, Nat.reduceLeDiff, reduceIte, reduceCtorEq, tysA, tyA, Ty.enc, Ty.encs])
      | (refine XCall.det (linear_Valid_ok ⟨c, ts⟩ _) ?_; simp -implicitDefEqProofs only [hv, hb, hne, hd, List.length_map, rs_linear_Subst, Bool.not_eq_true', Bool.not_eq_false', go_sem, eq_self, Nat.reduceEqDiff, Nat.reduceBEq, Nat.reduceAdd, Nat.reduceLeDiff, reduceIte, reduceCtorEq, tysA, tyA, Ty.enc, Ty.encs])
      | (refine XCall.det (ContainsFunc_ok bs _ (by omega)) ?_; simp -implicitDefEqProofs only [hv, hb, hne, hd, List.length_map, rs_linear_Subst, Bool.not_eq_true', Bool.not_eq_false', go_sem, eq_self, Nat.reduceEqDiff, Nat.reduceBEq, Nat.reduceAdd, Nat.reduceLeDiff, reduceIte, reduceCtorEq, tysA, tyA, Ty.enc, Ty.encs])
      | (refine XCall.det (repeated_ok vars _ (by omega)) ?_; simp -implicitDefEqProofs only [hv, hb, hne, hd, List.length_map, rs_linear_Subst, Bool.not_eq_true', Bool.not_eq_false', go_sem, eq_self, Nat.reduceEqDiff, Nat.reduceBEq, Nat.reduceAdd, Nat.reduceLeDiff, reduceIte, reduceCtorEq, tysA, tyA, Ty.enc, Ty.encs])
      | (refine xo_gs rfl (fun h => ?_) (fun h => ?_) <;> first | (cases h; done) | simp -implicitDefEqProofs only [hv, hb, hne, hd, List.length_map, rs_linear_Subst, Bool.not_eq_true', Bool.not_eq_false', go_sem, eq_self, Nat.reduceEqDiff, Nat.reduceBEq, Nat.reduceAdd, Nat.reduceLeDiff, reduceIte, reduceCtorEq, tysA, tyA, Ty.enc, Ty.encs])
      | (refine ⟨fun h => ?_, fun h => ?_⟩ <;> first | (cases h; done) | (simp -implicitDefEqProofs only [h]; done) | (try simp -implicitDefEqProofs only [h]))
      | fail))
    simp [substP, hv, hb, hvb, hd, errR, resA, linA]
  | false =>
  (repeat' (first
      | refine Run.seq ?_
      | refine Run.skip ?_
      | refine Run.block ?_
      | refine Run.blk ?_
      | refine Run.scope ?_
      | refine Run.scp ?_
      | (refine Run.exit rfl ?_)
      | (refine Run.reg mixed ?_; simp -implicitDefEqProofs only [hv, hb, hne, hd, List.length_map, rs_linear_Subst, Bool.not_eq_true', Bool.not_eq_false', go_sem, eq_self, Nat.reduceEqDiff, Nat.reduceBEq, Nat.reduceAdd, Nat.reduceLeDiff, reduceIte, reduceCtorEq, tysA, tyA, Ty.enc, Ty.encs])
      | (refine Run.condM ?_; simp -implicitDefEqProofs only [hv, hb, hne, hd, List.length_map, rs_linear_Subst, Bool.not_eq_true', Bool.not_eq_false', go_sem, eq_self, Nat.reduceEqDiff, Nat.reduceBEq, Nat.reduceAdd, Nat.reduceLeDiff, reduceIte, reduceCtorEq, tysA, tyA, Ty.enc, Ty.encs])
      | (refine XCall.det (linear_Valid_ok ⟨c, ts⟩ _) ?_; simp -implicitDefEqProofs only [hv, hb, hne, hd, List.length_map, rs_linear_Subst, Bool.not_eq_true', Bool.not_eq_false', go_sem, eq_self, Nat.reduceEqDiff, Nat.reduceBEq, Nat.reduceAdd, Nat.reduceLeDiff, reduceIte, reduceCtorEq, tysA, tyA, Ty.enc, Ty.encs])
      | (refine XCall.det (ContainsFunc_ok bs _ (by omega)) ?_; simp -implicitDefEqProofs only [hv, hb, hne, hd, List.length_map, rs_linear_Subst, Bool.not_eq_true', Bool.not_eq_false', go_sem, eq_self, Nat.reduceEqDiff, Nat.reduceBEq, Nat.reduceAdd, Nat.reduceLeDiff, reduceIte, reduceCtorEq, tysA, tyA, Ty.enc, Ty.encs])
      | (refine XCall.det (repeated_ok vars _ (by omega)) ?_; simp -implicitDefEqProofs only [hv, hb, hne, hd, List.length_map, rs_linear_Subst, Bool.not_eq_true', Bool.not_eq_false', go_sem, eq_self, Nat.reduceEqDiff, Nat.reduceBEq, Nat.reduceAdd, Nat.reduceLeDiff, reduceIte, reduceCtorEq, tysA, tyA, Ty.enc, Ty.encs])
      | (refine xo_gs rfl (fun h => ?_) (fun h => ?_) <;> first | (cases h; done) | simp -implicitDefEqProofs only [hv, hb, hne, hd, List.length_map, rs_linear_Subst, Bool.not_eq_true', Bool.not_eq_false', go_sem, eq_self, Nat.reduceEqDiff, Nat.reduceBEq, Nat.reduceAdd, Nat.reduceLeDiff, reduceIte, reduceCtorEq, tysA, tyA, Ty.enc, Ty.encs])
      | (refine ⟨fun h => ?_, fun h => ?_⟩ <;> first | (cases h; done) | (simp -implicitDefEqProofs only [h]; done) | (try simp -implicitDefEqProofs only [h]))
      | fail))
  refine Run.loopA ?_
  refine Run.loopI ((fun (a1 : AV) (a2 : AV) (a6 : AV) (a33 : AV) (a34 : AV) => fun (y : Nat × Int × AV × Heap) => put 1 a1 (put 2 a2 (put 6 a6 (put 8 (.d (.int .i64 y.2.1)) (put 9 (y.2.2.1) (put 33 a33 (put 34 a34 (put 35 (.d (.int .i64 y.1)) U)))))))) _ _ _ _ _) (fun y => putL 6 [.d (.int .i64 0), .nils] E) (fun y => y.2.2.2)
    (fun y => y.1 ≤ ts.length ∧ y.2.1 = c + sumC vars bs (ts.take y.1) ∧ OwnS σ 49 2 ((sumT vars bs (ts.take y.1)).map tmR) y.2.2.1 y.2.2.2) (fun y => ts.length - y.1) ?_ (0, c, .nils, σ) ⟨by simp, by simp [sumC], OwnS.nil _ _ _⟩
  rintro ⟨i, n, v, σ1⟩ ⟨hi, hn, ho⟩ ih
  simp only at hi hn ho
  have hbt : ∀ x ∈ ts.take i, -1048576 ≤ x.2 ∧ x.2 ≤ 1048576 := fun x hx => h2 x (List.mem_of_mem_take hx)
  have hsc := sumC_bd (vars := vars) hb hbt
  have hst := sumT_bd (vars := vars) hb hbt
  have hlt' : (ts.take i).length = i := by simp; omega
  rw [hlt'] at hsc hst
  obtain ⟨hst1, hst2⟩ := hst
  by_cases hlt : i < ts.length
  · obtain ⟨x, hx⟩ := ex_at hlt
    have hx' := tm_at hx
    have hxb := h2 x (List.mem_of_getElem? hx)
    have hw1 := wrap_succ (show i + 1 ≤ 9000000000000000000 by omega)
    have htk : ts.take (i + 1) = ts.take i ++ [x] := by rw [List.take_add_one, hx]; rfl
    have hC := sumC_snoc vars bs x (ts.take i)
    have hT := sumT_snoc vars bs x (ts.take i)
    rw [← htk] at hC hT
    have hsub := subC_bd (vars := vars) hb hxb
    have hsl := subT_len (vars := vars) hb x
    cases hk : idxN vars x.1 with
    | none =>
      have hid : idxI vars x.1 = -1 := by rw [idxI, hk]
      have hneg : decide ((-1 : Int) < 0) = true := by decide
      (repeat' (first
      | refine Run.seq ?_
      | refine Run.skip ?_
      | refine Run.block ?_
      | refine Run.blk ?_
      | refine Run.scope ?_
      | refine Run.scp ?_
      | (refine Run.exit rfl ?_)
      | (refine Run.reg mixed ?_; simp -implicitDefEqProofs only [lt_t hlt, hx', hid, hneg, hw1, ho.noLp, ho.cell, ho.cells, ho.lpOf, rs_linear_Subst, Bool.not_eq_true', Bool.not_eq_false', go_sem, eq_self, Nat.reduceEqDiff, Nat.reduceBEq, Nat.reduceAdd, Nat.reduceLeDiff, reduceIte, reduceCtorEq, tysA, tyA, Ty.enc, Ty.encs])
      | (refine Run.condM ?_; simp -implicitDefEqProofs only [lt_t hlt, hx', hid, hneg, hw1, ho.noLp, ho.cell, ho.cells, ho.lpOf, rs_linear_Subst, Bool.not_eq_true', Bool.not_eq_false', go_sem, eq_self, Nat.reduceEqDiff, Nat.reduceBEq, Nat.reduceAdd, Nat.reduceLeDiff, reduceIte, reduceCtorEq, tysA, tyA, Ty.enc, Ty.encs])
      | (refine XApp.own ho rfl (by simp) (by simp; omega) (by decide) (fun v2 σ2 ho2 hbk => ?_); (try simp -implicitDefEqProofs only [lt_t hlt, hx', hid, hneg, hw1, ho.noLp, ho.cell, ho.cells, ho.lpOf, rs_linear_Subst, Bool.not_eq_true', Bool.not_eq_false', go_sem, eq_self, Nat.reduceEqDiff, Nat.reduceBEq, Nat.reduceAdd, Nat.reduceLeDiff, reduceIte, reduceCtorEq, tysA, tyA, Ty.enc, Ty.encs]))
      | (refine XCall.det (Index_ok vars x.1 _ (by omega)) ?_; simp -implicitDefEqProofs only [lt_t hlt, hx', hid, hneg, hw1, ho.noLp, ho.cell, ho.cells, ho.lpOf, rs_linear_Subst, Bool.not_eq_true', Bool.not_eq_false', go_sem, eq_self, Nat.reduceEqDiff, Nat.reduceBEq, Nat.reduceAdd, Nat.reduceLeDiff, reduceIte, reduceCtorEq, tysA, tyA, Ty.enc, Ty.encs])
      | (refine xo_gs rfl (fun h => ?_) (fun h => ?_) <;> first | (cases h; done) | simp -implicitDefEqProofs only [lt_t hlt, hx', hid, hneg, hw1, ho.noLp, ho.cell, ho.cells, ho.lpOf, rs_linear_Subst, Bool.not_eq_true', Bool.not_eq_false', go_sem, eq_self, Nat.reduceEqDiff, Nat.reduceBEq, Nat.reduceAdd, Nat.reduceLeDiff, reduceIte, reduceCtorEq, tysA, tyA, Ty.enc, Ty.encs])
      | (refine ⟨fun h => ?_, fun h => ?_⟩ <;> first | (cases h; done) | (simp -implicitDefEqProofs only [h]; done) | (try simp -implicitDefEqProofs only [h]))
      | fail))
      have e1 : subC vars bs x = 0 := by simp [subC, pickF, hk]
      have e2 : subT vars bs x = [x] := by simp [subT, pickF, hk, mulT]
      exact ih (i + 1, n, v2, σ2) ⟨by simp only; omega, by simp only; rw [hC, e1, hn, Int.add_zero], by simp only; rw [hT, e2]; simpa [tmR] using ho2⟩ (by simp only; omega)
    | some k =>
      have hid : idxI vars x.1 = (k : Int) := by rw [idxI, hk]
      have hkl := (List.getElem?_eq_some_iff.1 (idxN_get hk)).1
      obtain ⟨m, hm⟩ := ex_at (show k < bs.length by omega)
      have hm' := lin_at hm
      have hmv := valid_facts ((List.all_eq_true.1 hb) m (List.mem_of_getElem? hm))
      have hpk : pickF vars bs x.1 = m := by simp [pickF, hk, hm]
      have hcx : subC vars bs x = x.2 * m.c := by rw [subC, hpk]
      have htx : subT vars bs x = m.ts.map (mulT x.2) := by rw [subT, hpk]
      have hneg : decide ((k : Int) < 0) = false := by simp
      have hwm : IntKind.i64.wrap (x.2 * m.c) = x.2 * m.c := wrap_id (by omega) (by omega)
      have hwn : IntKind.i64.wrap (n + x.2 * m.c) = n + x.2 * m.c := wrap_id (by omega) (by omega)
      have hsm := scl_mul hmv.2.1 hxb
      have htl : m.ts.length ≤ 1000000 := by omega
      (repeat' (first
      | refine Run.seq ?_
      | refine Run.skip ?_
      | refine Run.block ?_
      | refine Run.blk ?_
      | refine Run.scope ?_
      | refine Run.scp ?_
      | (refine Run.exit rfl ?_)
      | (refine Run.reg mixed ?_; simp -implicitDefEqProofs only [lt_t hlt, hx', hid, hneg, hw1, hm', hwm, hwn, hsm, tmsA, ho.noLp, ho.cell, ho.cells, ho.lpOf, rs_linear_Subst, Bool.not_eq_true', Bool.not_eq_false', go_sem, eq_self, Nat.reduceEqDiff, Nat.reduceBEq, Nat.reduceAdd, Nat.reduceLeDiff, reduceIte, reduceCtorEq, tysA, tyA, Ty.enc, Ty.encs])
      | (refine Run.condM ?_; simp -implicitDefEqProofs only [lt_t hlt, hx', hid, hneg, hw1, hm', hwm, hwn, hsm, tmsA, ho.noLp, ho.cell, ho.cells, ho.lpOf, rs_linear_Subst, Bool.not_eq_true', Bool.not_eq_false', go_sem, eq_self, Nat.reduceEqDiff, Nat.reduceBEq, Nat.reduceAdd, Nat.reduceLeDiff, reduceIte, reduceCtorEq, tysA, tyA, Ty.enc, Ty.encs])
      | (refine XApp.own ho (rows_d _) (rows_tm _) (by simp; omega) (by decide) (fun v2 σ2 ho2 hbk => ?_); (try simp -implicitDefEqProofs only [lt_t hlt, hx', hid, hneg, hw1, hm', hwm, hwn, hsm, tmsA, ho.noLp, ho.cell, ho.cells, ho.lpOf, rs_linear_Subst, Bool.not_eq_true', Bool.not_eq_false', go_sem, eq_self, Nat.reduceEqDiff, Nat.reduceBEq, Nat.reduceAdd, Nat.reduceLeDiff, reduceIte, reduceCtorEq, tysA, tyA, Ty.enc, Ty.encs]))
      | (refine XCall.det (Index_ok vars x.1 _ (by omega)) ?_; simp -implicitDefEqProofs only [lt_t hlt, hx', hid, hneg, hw1, hm', hwm, hwn, hsm, tmsA, ho.noLp, ho.cell, ho.cells, ho.lpOf, rs_linear_Subst, Bool.not_eq_true', Bool.not_eq_false', go_sem, eq_self, Nat.reduceEqDiff, Nat.reduceBEq, Nat.reduceAdd, Nat.reduceLeDiff, reduceIte, reduceCtorEq, tysA, tyA, Ty.enc, Ty.encs])
      | (refine XCall.det (times_ok m.ts x.2 _ htl) ?_; simp -implicitDefEqProofs only [lt_t hlt, hx', hid, hneg, hw1, hm', hwm, hwn, hsm, tmsA, ho.noLp, ho.cell, ho.cells, ho.lpOf, rs_linear_Subst, Bool.not_eq_true', Bool.not_eq_false', go_sem, eq_self, Nat.reduceEqDiff, Nat.reduceBEq, Nat.reduceAdd, Nat.reduceLeDiff, reduceIte, reduceCtorEq, tysA, tyA, Ty.enc, Ty.encs])
      | (refine xo_gs rfl (fun h => ?_) (fun h => ?_) <;> first | (cases h; done) | simp -implicitDefEqProofs only [lt_t hlt, hx', hid, hneg, hw1, hm', hwm, hwn, hsm, tmsA, ho.noLp, ho.cell, ho.cells, ho.lpOf, rs_linear_Subst, Bool.not_eq_true', Bool.not_eq_false', go_sem, eq_self, Nat.reduceEqDiff, Nat.reduceBEq, Nat.reduceAdd, Nat.reduceLeDiff, reduceIte, reduceCtorEq, tysA, tyA, Ty.enc, Ty.encs])
      | (refine ⟨fun h => ?_, fun h => ?_⟩ <;> first | (cases h; done) | (simp -implicitDefEqProofs only [h]; done) | (try simp -implicitDefEqProofs only [h]))
      | fail))
      exact ih (i + 1, n + x.2 * m.c, v2, σ2) ⟨by simp only; omega, by simp only; rw [hC, hcx, hn, Int.add_assoc], by simp only; rw [hT, htx, List.map_append]; exact ho2⟩ (by simp only; omega)
  · have hil : i = ts.length := by omega
    subst hil
    rw [List.take_length] at ho hst1 hst2 hsc hn
    have hbd : Bd (sumT vars bs ts) := ⟨by omega, fun x hx => by have := hst1 x hx; omega⟩
    (repeat' (first
      | refine Run.seq ?_
      | refine Run.skip ?_
      | refine Run.block ?_
      | refine Run.blk ?_
      | refine Run.scope ?_
      | refine Run.scp ?_
      | (refine Run.exit rfl ?_)
      | (refine Run.reg mixed ?_; simp -implicitDefEqProofs only [lt_f hlt, ho.noLp, ho.cell, ho.cells, ho.lpOf, resA, linA, rs_linear_Subst, Bool.not_eq_true', Bool.not_eq_false', go_sem, eq_self, Nat.reduceEqDiff, Nat.reduceBEq, Nat.reduceAdd, Nat.reduceLeDiff, reduceIte, reduceCtorEq, tysA, tyA, Ty.enc, Ty.encs])
      | (refine Run.condM ?_; simp -implicitDefEqProofs only [lt_f hlt, ho.noLp, ho.cell, ho.cells, ho.lpOf, resA, linA, rs_linear_Subst, Bool.not_eq_true', Bool.not_eq_false', go_sem, eq_self, Nat.reduceEqDiff, Nat.reduceBEq, Nat.reduceAdd, Nat.reduceLeDiff, reduceIte, reduceCtorEq, tysA, tyA, Ty.enc, Ty.encs])
      | (refine XCall.det (collect_plain hbd ho.plain) ?_ (by simp only [List.all_cons, List.all_nil, ho.noLp, noLp_d, Bool.and_self]); (try simp -implicitDefEqProofs only [lt_f hlt, ho.noLp, ho.cell, ho.cells, ho.lpOf, resA, linA, rs_linear_Subst, Bool.not_eq_true', Bool.not_eq_false', go_sem, eq_self, Nat.reduceEqDiff, Nat.reduceBEq, Nat.reduceAdd, Nat.reduceLeDiff, reduceIte, reduceCtorEq, tysA, tyA, Ty.enc, Ty.encs]))
      | (refine Run.retP g_linear_Subst (σ2 := σ) ho.le ?_; (try simp -implicitDefEqProofs only [lt_f hlt, ho.noLp, ho.cell, ho.cells, ho.lpOf, resA, linA, rs_linear_Subst, Bool.not_eq_true', Bool.not_eq_false', go_sem, eq_self, Nat.reduceEqDiff, Nat.reduceBEq, Nat.reduceAdd, Nat.reduceLeDiff, reduceIte, reduceCtorEq, tysA, tyA, Ty.enc, Ty.encs]))
      | (refine xo_gs rfl (fun h => ?_) (fun h => ?_) <;> first | (cases h; done) | simp -implicitDefEqProofs only [lt_f hlt, ho.noLp, ho.cell, ho.cells, ho.lpOf, resA, linA, rs_linear_Subst, Bool.not_eq_true', Bool.not_eq_false', go_sem, eq_self, Nat.reduceEqDiff, Nat.reduceBEq, Nat.reduceAdd, Nat.reduceLeDiff, reduceIte, reduceCtorEq, tysA, tyA, Ty.enc, Ty.encs])
      | (refine ⟨fun h => ?_, fun h => ?_⟩ <;> first | (cases h; done) | (simp -implicitDefEqProofs only [h]; done) | (try simp -implicitDefEqProofs only [h]))
      | fail))
    simp [substP, hv, hb, hvb, hd, resA, linA, hn]
end Go.Ab
