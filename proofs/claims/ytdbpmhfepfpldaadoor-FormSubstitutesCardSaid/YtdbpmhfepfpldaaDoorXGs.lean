/- Rows of integers: copy, sort of a short row, compaction; repeated. Conditions: none. -/
import Derived.Test.YtdbpmhfepfpldaaDoorXGi
import Derived.Test.YtdbpmhfepfpldaaDoorXBs
import Derived.Test.YtdbpmhfepfpldaaDoorXCdS
set_option linter.unusedSimpArgs false
set_option linter.unusedVariables false
namespace Go.Ab
open Go.Proofs

def isA (l : List Int) : AV := .d (.sl (l.map iRow))
def ints (l : List Int) : List AV := l.map fun n => .d (.int .i64 n)
theorem ints_len (l : List Int) : (ints l).length = l.length := by simp [ints]
theorem ints_get {l : List Int} {k : Nat} {x : Int} (h : l[k]? = some x) : (ints l)[k]? = some (.d (.int .i64 x)) := by simp [ints, h]
theorem ints_wr {l : List Int} {k : Nat} (x : Int) (h : k < l.length) : wr (ints l) k [.d (.int .i64 x)] = ints (l.set k x) := by
  unfold wr ints
  rw [List.map_set, List.set_eq_take_append_cons_drop, if_pos (by simpa using h)]
  simp
theorem int_at {l : List Int} {i : Nat} {x : Int} (h : l[i]? = some x) : (l.map iRow)[i]? = some [.int .i64 x] := by
  rw [List.getElem?_map, h]; rfl
theorem newCells_int (l : List Int) : newCells (l.map iRow) = ints l := by
  induction l with
  | nil => rfl
  | cons x l ih =>
    simp only [newCells, List.map_cons, iRow, List.flatten_cons, List.map_append, List.map_nil] at ih ⊢
    simp only [ints, List.map_cons, List.cons_append, List.nil_append, List.cons.injEq, true_and] at ih ⊢
    exact ih
theorem rows_int (l : List Int) : ∀ r ∈ l.map iRow, r.length = 1 := by
  intro r hr
  obtain ⟨x, _, rfl⟩ := List.mem_map.1 hr
  rfl

/-- A mutable row of integers. -/
def MI (σ : Heap) (l : List Int) (v : AV) (σ' : Heap) : Prop := (l = [] ∧ v = .nils ∧ σ' = σ) ∨ ∃ j, σ.blk j = none ∧ v = .ms j l.length 1 3 ∧ σ' = σ.setBlk j (ints l)

theorem CloneI_ok (l : List Int) (σ : Heap) (hl : l.length ≤ 1000000) : ACalls Tryd.prog 99 [isA l] σ (MI σ l) := by
  refine i_slices_Clone_int (by simp) ?_
  rw [argF_1, isA]
  cases l with
  | nil =>
    (repeat' (first
      | refine Run.seq ?_
      | refine Run.skip ?_
      | refine Run.block ?_
      | refine Run.blk ?_
      | refine Run.scope ?_
      | refine Run.scp ?_
      | (refine Run.exit rfl ?_)
      | (refine Run.reg mixed ?_; simp -implicitDefEqProofs only [List.map_nil, rs_slices_Clone_int, Bool.not_eq_true', Bool.not_eq_false', go_sem, eq_self, Nat.reduceEqDiff, Nat.reduceBEq, Nat.reduceAdd, Nat.reduceLeDiff, reduceIte, reduceCtorEq, tysA, tyA, Ty.enc, Ty.encs])
      | (refine Run.condM ?_; simp -implicitDefEqProofs only [List.map_nil, rs_slices_Clone_int, Bool.not_eq_true', Bool.not_eq_false', go_sem, eq_self, Nat.reduceEqDiff, Nat.reduceBEq, Nat.reduceAdd, Nat.reduceLeDiff, reduceIte, reduceCtorEq, tysA, tyA, Ty.enc, Ty.encs])
      | (refine XEx.snil_any rfl rfl (fun b => ?_); (try simp -implicitDefEqProofs only [List.map_nil, rs_slices_Clone_int, Bool.not_eq_true', Bool.not_eq_false', go_sem, eq_self, Nat.reduceEqDiff, Nat.reduceBEq, Nat.reduceAdd, Nat.reduceLeDiff, reduceIte, reduceCtorEq, tysA, tyA, Ty.enc, Ty.encs]))
      | (refine XBslM.mk (fun j hj => ?_); (try simp -implicitDefEqProofs only [List.map_nil, rs_slices_Clone_int, Bool.not_eq_true', Bool.not_eq_false', go_sem, eq_self, Nat.reduceEqDiff, Nat.reduceBEq, Nat.reduceAdd, Nat.reduceLeDiff, reduceIte, reduceCtorEq, tysA, tyA, Ty.enc, Ty.encs]))
      | (refine XAppM.emp (n := 0) (cs := []) (σ1 := (σ.setBlk j []).delBlk j) (by simp [appmA, setBlk_get]) rfl (by omega) (by omega) ?_; (try simp -implicitDefEqProofs only [List.map_nil, rs_slices_Clone_int, Bool.not_eq_true', Bool.not_eq_false', go_sem, eq_self, Nat.reduceEqDiff, Nat.reduceBEq, Nat.reduceAdd, Nat.reduceLeDiff, reduceIte, reduceCtorEq, tysA, tyA, Ty.enc, Ty.encs]))
      | (refine Run.retR g_slices_Clone_int (Heap.le_refl _) ?_; simp -implicitDefEqProofs only [rs_slices_Clone_int, List.map_nil, go_sem, eq_self, Nat.reduceEqDiff, Nat.reduceBEq, Nat.reduceAdd, Nat.reduceLeDiff, reduceIte, reduceCtorEq, tysA, tyA, Ty.enc, Ty.encs])
      | (refine xo_gs rfl (fun h => ?_) (fun h => ?_) <;> first | (cases h; done) | simp -implicitDefEqProofs only [List.map_nil, rs_slices_Clone_int, Bool.not_eq_true', Bool.not_eq_false', go_sem, eq_self, Nat.reduceEqDiff, Nat.reduceBEq, Nat.reduceAdd, Nat.reduceLeDiff, reduceIte, reduceCtorEq, tysA, tyA, Ty.enc, Ty.encs])
      | (refine ⟨fun h => ?_, fun h => ?_⟩ <;> first | (cases h; done) | (simp -implicitDefEqProofs only [h]; done) | (try simp -implicitDefEqProofs only [h]))
      | fail))
    · exact .inl ⟨rfl, rfl, rfl⟩
    · exact .inr ⟨j, hj, rfl, rfl⟩
  | cons x l =>
    (repeat' (first
      | refine Run.seq ?_
      | refine Run.skip ?_
      | refine Run.block ?_
      | refine Run.blk ?_
      | refine Run.scope ?_
      | refine Run.scp ?_
      | (refine Run.exit rfl ?_)
      | (refine Run.reg mixed ?_; simp -implicitDefEqProofs only [List.map_nil, rs_slices_Clone_int, Bool.not_eq_true', Bool.not_eq_false', go_sem, eq_self, Nat.reduceEqDiff, Nat.reduceBEq, Nat.reduceAdd, Nat.reduceLeDiff, reduceIte, reduceCtorEq, tysA, tyA, Ty.enc, Ty.encs])
      | (refine Run.condM ?_; simp -implicitDefEqProofs only [List.map_nil, rs_slices_Clone_int, Bool.not_eq_true', Bool.not_eq_false', go_sem, eq_self, Nat.reduceEqDiff, Nat.reduceBEq, Nat.reduceAdd, Nat.reduceLeDiff, reduceIte, reduceCtorEq, tysA, tyA, Ty.enc, Ty.encs])
      | (refine XEx.snil rfl (b := false) rfl ?_; (try simp -implicitDefEqProofs only [List.map_nil, rs_slices_Clone_int, Bool.not_eq_true', Bool.not_eq_false', go_sem, eq_self, Nat.reduceEqDiff, Nat.reduceBEq, Nat.reduceAdd, Nat.reduceLeDiff, reduceIte, reduceCtorEq, tysA, tyA, Ty.enc, Ty.encs]))
      | (refine XBslM.mk (fun j hj => ?_); (try simp -implicitDefEqProofs only [List.map_nil, rs_slices_Clone_int, Bool.not_eq_true', Bool.not_eq_false', go_sem, eq_self, Nat.reduceEqDiff, Nat.reduceBEq, Nat.reduceAdd, Nat.reduceLeDiff, reduceIte, reduceCtorEq, tysA, tyA, Ty.enc, Ty.encs]))
      | (refine XAppM.mk (n := 0) (cs := []) (srows := (x :: l).map iRow) (σ1 := (σ.setBlk j []).delBlk j) (by simp [appmA, setBlk_get]) rfl (rows_int _) (by simp) (by simp at hl ⊢; omega) (by omega) (fun j2 hj2 => ?_); (try simp -implicitDefEqProofs only [List.map_nil, rs_slices_Clone_int, Bool.not_eq_true', Bool.not_eq_false', go_sem, eq_self, Nat.reduceEqDiff, Nat.reduceBEq, Nat.reduceAdd, Nat.reduceLeDiff, reduceIte, reduceCtorEq, tysA, tyA, Ty.enc, Ty.encs]))
      | (refine Run.retR g_slices_Clone_int (Heap.le_refl _) ?_; simp -implicitDefEqProofs only [rs_slices_Clone_int, List.map_nil, go_sem, eq_self, Nat.reduceEqDiff, Nat.reduceBEq, Nat.reduceAdd, Nat.reduceLeDiff, reduceIte, reduceCtorEq, tysA, tyA, Ty.enc, Ty.encs])
      | (refine xo_gs rfl (fun h => ?_) (fun h => ?_) <;> first | (cases h; done) | simp -implicitDefEqProofs only [List.map_nil, rs_slices_Clone_int, Bool.not_eq_true', Bool.not_eq_false', go_sem, eq_self, Nat.reduceEqDiff, Nat.reduceBEq, Nat.reduceAdd, Nat.reduceLeDiff, reduceIte, reduceCtorEq, tysA, tyA, Ty.enc, Ty.encs])
      | (refine ⟨fun h => ?_, fun h => ?_⟩ <;> first | (cases h; done) | (simp -implicitDefEqProofs only [h]; done) | (try simp -implicitDefEqProofs only [h]))
      | fail))
    rw [show iRow x :: List.map iRow l = (x :: l).map iRow from rfl, newCells_int, del_set hj]
    simp only [setBlk_get] at hj2
    split at hj2
    · cases hj2
    · exact .inr ⟨j2, hj2, by simp, rfl⟩

theorem isNaN_ok (n : Int) (σ : Heap) : ACalls Tryd.prog 89 [.d (.int .i64 n)] σ (fun v σ' => v = .d (.bool false) ∧ σ' = σ) := by
  refine i_cmp_isNaN_int (by simp) ?_
  rw [argF_1]
  (repeat' (first
      | refine Run.seq ?_
      | refine Run.skip ?_
      | refine Run.block ?_
      | refine Run.blk ?_
      | refine Run.scope ?_
      | refine Run.scp ?_
      | (refine Run.exit rfl ?_)
      | (refine Run.reg mixed ?_; simp -implicitDefEqProofs only [bne_self_eq_false, rs_cmp_isNaN_int, Bool.not_eq_true', Bool.not_eq_false', go_sem, eq_self, Nat.reduceEqDiff, Nat.reduceBEq, Nat.reduceAdd, Nat.reduceLeDiff, reduceIte, reduceCtorEq, tysA, tyA, Ty.enc, Ty.encs])
      | (refine Run.condM ?_; simp -implicitDefEqProofs only [bne_self_eq_false, rs_cmp_isNaN_int, Bool.not_eq_true', Bool.not_eq_false', go_sem, eq_self, Nat.reduceEqDiff, Nat.reduceBEq, Nat.reduceAdd, Nat.reduceLeDiff, reduceIte, reduceCtorEq, tysA, tyA, Ty.enc, Ty.encs])
      | (refine Run.retP g_cmp_isNaN_int (Heap.le_refl _) ?_; simp -implicitDefEqProofs only [rs_cmp_isNaN_int, bne_self_eq_false, go_sem, eq_self, Nat.reduceEqDiff, Nat.reduceBEq, Nat.reduceAdd, Nat.reduceLeDiff, reduceIte, reduceCtorEq, tysA, tyA, Ty.enc, Ty.encs])
      | (refine xo_gs rfl (fun h => ?_) (fun h => ?_) <;> first | (cases h; done) | simp -implicitDefEqProofs only [bne_self_eq_false, rs_cmp_isNaN_int, Bool.not_eq_true', Bool.not_eq_false', go_sem, eq_self, Nat.reduceEqDiff, Nat.reduceBEq, Nat.reduceAdd, Nat.reduceLeDiff, reduceIte, reduceCtorEq, tysA, tyA, Ty.enc, Ty.encs])
      | (refine ⟨fun h => ?_, fun h => ?_⟩ <;> first | (cases h; done) | (simp -implicitDefEqProofs only [h]; done) | (try simp -implicitDefEqProofs only [h]))
      | fail))
theorem Less_ok (a b : Int) (σ : Heap) : ACalls Tryd.prog 139 [.d (.int .i64 a), .d (.int .i64 b)] σ (fun v σ' => v = .d (.bool (decide (a < b))) ∧ σ' = σ) := by
  refine i_cmp_Less_int (by simp) ?_
  rw [argF_2]
  (repeat' (first
      | refine Run.seq ?_
      | refine Run.skip ?_
      | refine Run.block ?_
      | refine Run.blk ?_
      | refine Run.scope ?_
      | refine Run.scp ?_
      | (refine Run.exit rfl ?_)
      | (refine Run.reg mixed ?_; simp -implicitDefEqProofs only [rs_cmp_Less_int, Bool.not_eq_true', Bool.not_eq_false', go_sem, eq_self, Nat.reduceEqDiff, Nat.reduceBEq, Nat.reduceAdd, Nat.reduceLeDiff, reduceIte, reduceCtorEq, tysA, tyA, Ty.enc, Ty.encs])
      | (refine Run.condM ?_; simp -implicitDefEqProofs only [rs_cmp_Less_int, Bool.not_eq_true', Bool.not_eq_false', go_sem, eq_self, Nat.reduceEqDiff, Nat.reduceBEq, Nat.reduceAdd, Nat.reduceLeDiff, reduceIte, reduceCtorEq, tysA, tyA, Ty.enc, Ty.encs])
      | (refine Run.retP g_cmp_Less_int (Heap.le_refl _) ?_; simp -implicitDefEqProofs only [rs_cmp_Less_int, go_sem, eq_self, Nat.reduceEqDiff, Nat.reduceBEq, Nat.reduceAdd, Nat.reduceLeDiff, reduceIte, reduceCtorEq, tysA, tyA, Ty.enc, Ty.encs])
      | (refine XCall.det (isNaN_ok a _) ?_; simp -implicitDefEqProofs only [rs_cmp_Less_int, Bool.not_eq_true', Bool.not_eq_false', go_sem, eq_self, Nat.reduceEqDiff, Nat.reduceBEq, Nat.reduceAdd, Nat.reduceLeDiff, reduceIte, reduceCtorEq, tysA, tyA, Ty.enc, Ty.encs])
      | (refine XCall.det (isNaN_ok b _) ?_; simp -implicitDefEqProofs only [rs_cmp_Less_int, Bool.not_eq_true', Bool.not_eq_false', go_sem, eq_self, Nat.reduceEqDiff, Nat.reduceBEq, Nat.reduceAdd, Nat.reduceLeDiff, reduceIte, reduceCtorEq, tysA, tyA, Ty.enc, Ty.encs])
      | (refine xo_gs rfl (fun h => ?_) (fun h => ?_) <;> first | (cases h; done) | simp -implicitDefEqProofs only [rs_cmp_Less_int, Bool.not_eq_true', Bool.not_eq_false', go_sem, eq_self, Nat.reduceEqDiff, Nat.reduceBEq, Nat.reduceAdd, Nat.reduceLeDiff, reduceIte, reduceCtorEq, tysA, tyA, Ty.enc, Ty.encs])
      | (refine ⟨fun h => ?_, fun h => ?_⟩ <;> first | (cases h; done) | (simp -implicitDefEqProofs only [h]; done) | (try simp -implicitDefEqProofs only [h]))
      | fail))

theorem bitLen_le : ∀ f x : Nat, Lib.bitLenAux f x ≤ f
  | 0, _ => Nat.le_refl _
  | f + 1, x => by
    unfold Lib.bitLenAux
    have := bitLen_le f (x / 2)
    split <;> omega
theorem bitsLen_ok (n : Nat) (σ : Heap) (hn : n ≤ 1000) : ACalls Tryd.prog 110 [.d (.int .u64 (n : Int))] σ (fun v σ' => v = .d (.int .i64 (Lib.bitLen n : Nat)) ∧ σ' = σ) := by
  intro base g Pr w0 w vs hr hv
  obtain ⟨v, rfl, h1⟩ := hv.one
  obtain ⟨rfl, _⟩ := h1.int_inv
  have h := Any.bits_Len (SlLaysF0.n15.bits (P := Tryd.prog) (ρ := Tryd.sortLT_ren) { Tryd.sortLT with }) (n : Int) w (by omega) (by omega)
  refine Calls.mono (show Calls Tryd.prog 110 #[.int .u64 (n : Int)] w _ from h) ?_
  rintro e w' ⟨rfl, rfl⟩
  rw [Int.toNat_natCast]
  have hb : Lib.bitLen n ≤ 64 := bitLen_le 64 n
  exact ⟨_, _, g, σ, rfl, .d (.int ⟨show (-9223372036854775808 : Int) ≤ _ by omega, show _ ≤ (9223372036854775807 : Int) by omega⟩), hr, Gh.le_refl g, KP.refl _ _, rfl, rfl⟩

theorem sorted_ins {S : List Int} {x : Int} {p : Nat} (hs : S.Pairwise (· ≤ ·)) (h1 : ∀ b ∈ S.drop p, x < b) (h2 : ∀ a ∈ S.take p, a ≤ x) : (S.take p ++ x :: S.drop p).Pairwise (· ≤ ·) := by
  rw [List.pairwise_append]
  have hs' := hs
  rw [← List.take_append_drop p S, List.pairwise_append] at hs'
  refine ⟨hs'.1, List.pairwise_cons.2 ⟨fun b hb => by have := h1 b hb; omega, hs'.2.1⟩, fun a ha b hb => ?_⟩
  rcases List.mem_cons.1 hb with rfl | hb
  · exact h2 a ha
  · exact hs'.2.2 a ha b hb

theorem swap_step {S rest : List Int} {x y : Int} {p : Nat} (hp : p + 1 ≤ S.length) (hy : S[p]? = some y) :
    ((S.take (p + 1) ++ x :: S.drop (p + 1) ++ rest).set (p + 1) y).set p x = S.take p ++ x :: S.drop p ++ rest := by
  have l1 : (S.take (p + 1)).length = p + 1 := by simp; omega
  have e1 : S.take (p + 1) = S.take p ++ [y] := by rw [List.take_add_one, hy]; rfl
  have e2 : S.drop p = y :: S.drop (p + 1) := drop_at hy
  have l2 : (S.take p).length = p := by simp; omega
  rw [List.append_assoc, List.set_append_right _ _ (by omega), l1, Nat.sub_self, List.cons_append, List.set_cons_zero, e1, e2]
  rw [List.append_assoc, List.set_append_right _ _ (by omega), l2, Nat.sub_self]
  simp

theorem Run.heapEq {cx : Cx} {KK : AV → Heap → Prop} {k : List CI} {F : Fm} {L : Lm} {σ σ' : Heap} (e : σ' = σ) (h : Run cx KK k F L σ') : Run cx KK k F L σ := e ▸ h

set_option maxHeartbeats 1000000 in
theorem insSort_ok {σ : Heap} {j e : Nat} {l : List Int} (hl : l.length ≤ 1000) (hb : σ.blk j = some (ints l)) :
    ACalls Tryd.prog 133 [.ms j l.length 1 e, .d (.int .i64 0), .d (.int .i64 l.length)] σ (fun v σ' => v = .tup [] ∧ ∃ l', l'.Perm l ∧ l'.Pairwise (· ≤ ·) ∧ σ' = σ.setBlk j (ints l')) := by
  refine i_slices_insertionSortOrdered_int (by simp) ?_
  rw [argF_3]
  have h01 : IntKind.i64.wrap ((0 : Int) + 1) = ((1 : Nat) : Int) := by decide
  (repeat' (first
      | refine Run.seq ?_
      | refine Run.skip ?_
      | refine Run.block ?_
      | refine Run.blk ?_
      | refine Run.scope ?_
      | refine Run.scp ?_
      | (refine Run.exit rfl ?_)
      | (refine Run.reg mixed ?_; simp -implicitDefEqProofs only [h01, rs_slices_insertionSortOrdered_int, Bool.not_eq_true', Bool.not_eq_false', go_sem, eq_self, Nat.reduceEqDiff, Nat.reduceBEq, Nat.reduceAdd, Nat.reduceLeDiff, reduceIte, reduceCtorEq, tysA, tyA, Ty.enc, Ty.encs])
      | (refine Run.condM ?_; simp -implicitDefEqProofs only [h01, rs_slices_insertionSortOrdered_int, Bool.not_eq_true', Bool.not_eq_false', go_sem, eq_self, Nat.reduceEqDiff, Nat.reduceBEq, Nat.reduceAdd, Nat.reduceLeDiff, reduceIte, reduceCtorEq, tysA, tyA, Ty.enc, Ty.encs])
      | (refine xo_gs rfl (fun h => ?_) (fun h => ?_) <;> first | (cases h; done) | simp -implicitDefEqProofs only [h01, rs_slices_insertionSortOrdered_int, Bool.not_eq_true', Bool.not_eq_false', go_sem, eq_self, Nat.reduceEqDiff, Nat.reduceBEq, Nat.reduceAdd, Nat.reduceLeDiff, reduceIte, reduceCtorEq, tysA, tyA, Ty.enc, Ty.encs])
      | (refine ⟨fun h => ?_, fun h => ?_⟩ <;> first | (cases h; done) | (simp -implicitDefEqProofs only [h]; done) | (try simp -implicitDefEqProofs only [h]))
      | fail))
  refine Run.loopA ?_
  refine Run.heapEq (σ' := σ.setBlk j (ints (l.take 1 ++ l.drop 1))) (by rw [List.take_append_drop, setBlk_same hb]) ?_
  refine Run.loopI ((fun (a0 : AV) (a1 : AV) (a2 : AV) => fun (y : Nat × List Int × List Int) => put 0 a0 (put 1 a1 (put 2 a2 (put 6 (.d (.int .i64 y.1)) U)))) _ _ _) (fun _ => E) (fun y => σ.setBlk j (ints (y.2.1 ++ y.2.2)))
    (fun y => (y.2.1 ++ y.2.2).Perm l ∧ y.2.1.Pairwise (· ≤ ·) ∧ (y.1 ≤ l.length ∨ l = []) ∧ (y.2.1.length = y.1 ∨ l = [])) (fun y => l.length + 1 - y.1) ?_ (1, l.take 1, l.drop 1)
    ⟨by rw [List.take_append_drop], by cases l with | nil => simp | cons x l => simp, by cases l with | nil => simp | cons x l => simp, by cases l with | nil => simp | cons x l => simp⟩
  rintro ⟨i, S, R⟩ ⟨hperm, hsort, hi, hSl⟩ ih
  simp only at hperm hsort hi hSl
  have hlen := hperm.length_eq
  rw [List.length_append] at hlen
  by_cases hlt : i < l.length
  · have hne : l ≠ [] := by intro e; rw [e] at hlt; simp at hlt
    have hSi : S.length = i := hSl.resolve_right hne
    obtain ⟨x, R', rfl⟩ : ∃ x R', R = x :: R' := by
      cases R with
      | nil => simp at hlen; omega
      | cons x R' => exact ⟨x, R', rfl⟩
    (repeat' (first
      | refine Run.seq ?_
      | refine Run.skip ?_
      | refine Run.block ?_
      | refine Run.blk ?_
      | refine Run.scope ?_
      | refine Run.scp ?_
      | (refine Run.exit rfl ?_)
      | (refine Run.reg mixed ?_; simp -implicitDefEqProofs only [lt_t hlt, rs_slices_insertionSortOrdered_int, Bool.not_eq_true', Bool.not_eq_false', go_sem, eq_self, Nat.reduceEqDiff, Nat.reduceBEq, Nat.reduceAdd, Nat.reduceLeDiff, reduceIte, reduceCtorEq, tysA, tyA, Ty.enc, Ty.encs])
      | (refine Run.condM ?_; simp -implicitDefEqProofs only [lt_t hlt, rs_slices_insertionSortOrdered_int, Bool.not_eq_true', Bool.not_eq_false', go_sem, eq_self, Nat.reduceEqDiff, Nat.reduceBEq, Nat.reduceAdd, Nat.reduceLeDiff, reduceIte, reduceCtorEq, tysA, tyA, Ty.enc, Ty.encs])
      | (refine xo_gs rfl (fun h => ?_) (fun h => ?_) <;> first | (cases h; done) | simp -implicitDefEqProofs only [lt_t hlt, rs_slices_insertionSortOrdered_int, Bool.not_eq_true', Bool.not_eq_false', go_sem, eq_self, Nat.reduceEqDiff, Nat.reduceBEq, Nat.reduceAdd, Nat.reduceLeDiff, reduceIte, reduceCtorEq, tysA, tyA, Ty.enc, Ty.encs])
      | (refine ⟨fun h => ?_, fun h => ?_⟩ <;> first | (cases h; done) | (simp -implicitDefEqProofs only [h]; done) | (try simp -implicitDefEqProofs only [h]))
      | fail))
    refine Run.loopA ?_
    have e0 : S ++ x :: R' = S.take i ++ x :: S.drop i ++ R' := by
      rw [List.take_of_length_le (by omega), List.drop_of_length_le (by omega)]; simp
    rw [e0]
    refine Run.loopI ((fun (a0 : AV) (a1 : AV) (a2 : AV) (a6 : AV) => fun (p : Nat) => put 0 a0 (put 1 a1 (put 2 a2 (put 6 a6 (put 7 (.d (.int .i64 p)) U))))) _ _ _ _) (fun _ => E) (fun p => σ.setBlk j (ints (S.take p ++ x :: S.drop p ++ R'))) (fun p => p ≤ i ∧ ∀ b ∈ S.drop p, x < b) (fun p => p) ?_ i ⟨Nat.le_refl _, by rw [List.drop_of_length_le (by omega)]; simp⟩
    rintro p ⟨hp, hgt⟩ ih2
    have hw1 := wrap_succ (show i + 1 ≤ 9000000000000000000 by omega)
    have hcl : (S.take p ++ x :: S.drop p ++ R').length = l.length := by
      simp only [List.length_append, List.length_cons, List.length_take, List.length_drop] at hlen ⊢; omega
    have fin : (∀ a ∈ S.take p, a ≤ x) → ((S.take p ++ x :: S.drop p) ++ R').Perm l ∧ (S.take p ++ x :: S.drop p).Pairwise (· ≤ ·) ∧ (i + 1 ≤ l.length ∨ l = []) ∧ ((S.take p ++ x :: S.drop p).length = i + 1 ∨ l = []) := fun h => by
      refine ⟨?_, sorted_ins hsort hgt h, .inl (by omega), .inl (by rw [List.length_append, List.length_cons, List.length_take, List.length_drop, Nat.min_eq_left (by omega)]; omega)⟩
      refine List.Perm.trans ?_ hperm
      rw [List.append_assoc, List.cons_append]
      have : (S.take p ++ x :: (S.drop p ++ R')).Perm (x :: (S.take p ++ (S.drop p ++ R'))) := List.perm_middle
      refine this.trans ?_
      rw [← List.append_assoc, List.take_append_drop]
      exact List.perm_middle.symm
    cases p with
    | zero =>
      have c0 : decide ((0 : Int) < ((0 : Nat) : Int)) = false := by decide
      (repeat' (first
      | refine Run.seq ?_
      | refine Run.skip ?_
      | refine Run.block ?_
      | refine Run.blk ?_
      | refine Run.scope ?_
      | refine Run.scp ?_
      | (refine Run.exit rfl ?_)
      | (refine Run.reg mixed ?_; simp -implicitDefEqProofs only [c0, hw1, rs_slices_insertionSortOrdered_int, Bool.not_eq_true', Bool.not_eq_false', go_sem, eq_self, Nat.reduceEqDiff, Nat.reduceBEq, Nat.reduceAdd, Nat.reduceLeDiff, reduceIte, reduceCtorEq, tysA, tyA, Ty.enc, Ty.encs])
      | (refine Run.condM ?_; simp -implicitDefEqProofs only [c0, hw1, rs_slices_insertionSortOrdered_int, Bool.not_eq_true', Bool.not_eq_false', go_sem, eq_self, Nat.reduceEqDiff, Nat.reduceBEq, Nat.reduceAdd, Nat.reduceLeDiff, reduceIte, reduceCtorEq, tysA, tyA, Ty.enc, Ty.encs])
      | (refine xo_gs rfl (fun h => ?_) (fun h => ?_) <;> first | (cases h; done) | simp -implicitDefEqProofs only [c0, hw1, rs_slices_insertionSortOrdered_int, Bool.not_eq_true', Bool.not_eq_false', go_sem, eq_self, Nat.reduceEqDiff, Nat.reduceBEq, Nat.reduceAdd, Nat.reduceLeDiff, reduceIte, reduceCtorEq, tysA, tyA, Ty.enc, Ty.encs])
      | (refine ⟨fun h => ?_, fun h => ?_⟩ <;> first | (cases h; done) | (simp -implicitDefEqProofs only [h]; done) | (try simp -implicitDefEqProofs only [h]))
      | fail))
      exact ih (i + 1, S.take 0 ++ x :: S.drop 0, R') (fin (by simp)) (by simp only; omega)
    | succ p =>
      have c1 : decide ((0 : Int) < ((p + 1 : Nat) : Int)) = true := by simp only [decide_eq_true_eq]; omega
      have hws : IntKind.i64.wrap (((p + 1 : Nat) : Int) - 1) = (p : Int) := by rw [wrap_pos (by omega) (by omega)]; omega
      obtain ⟨y, hy⟩ := ex_at (show p < S.length by omega)
      have hl2 : (S.take (p + 1)).length = p + 1 := by simp; omega
      have gx : (S.take (p + 1) ++ x :: S.drop (p + 1) ++ R')[p + 1]? = some x := by
        rw [List.append_assoc, List.getElem?_append_right (by omega), hl2, Nat.sub_self]; rfl
      have gy : (S.take (p + 1) ++ x :: S.drop (p + 1) ++ R')[p]? = some y := by
        rw [List.append_assoc, List.getElem?_append_left (by omega), List.getElem?_take, if_pos (by omega), hy]
      have kx := ints_get gx
      have ky := ints_get gy
      have b1 : (((p + 1 : Nat) : Int) < (l.length : Int)) = True := by simp only [eq_iff_iff, iff_true]; omega
      have b2 : ((p : Int) < (l.length : Int)) = True := by simp only [eq_iff_iff, iff_true]; omega
      by_cases hxy : x < y
      · have w1 := ints_wr (l := S.take (p + 1) ++ x :: S.drop (p + 1) ++ R') (k := p + 1) y (by omega)
        have w2 := ints_wr (l := (S.take (p + 1) ++ x :: S.drop (p + 1) ++ R').set (p + 1) y) (k := p) x (by rw [List.length_set]; omega)
        simp only [wr, List.length_cons, List.length_nil, Nat.zero_add] at w1 w2
        have d1 : (p + 1 + (0 + 1) ≤ (ints (S.take (p + 1) ++ x :: S.drop (p + 1) ++ R')).length) = True := by rw [ints_len, hcl]; simp; omega
        have d2 : (p + (0 + 1) ≤ (ints ((S.take (p + 1) ++ x :: S.drop (p + 1) ++ R').set (p + 1) y)).length) = True := by rw [ints_len, List.length_set, hcl]; simp; omega
        (repeat' (first
      | refine Run.seq ?_
      | refine Run.skip ?_
      | refine Run.block ?_
      | refine Run.blk ?_
      | refine Run.scope ?_
      | refine Run.scp ?_
      | (refine Run.exit rfl ?_)
      | (refine Run.reg mixed ?_; simp -implicitDefEqProofs only [c1, hws, b1, b2, kx, ky, decide_eq_true hxy, w1, w2, d1, d2, Nat.mul_one, rs_slices_insertionSortOrdered_int, Bool.not_eq_true', Bool.not_eq_false', go_sem, eq_self, Nat.reduceEqDiff, Nat.reduceBEq, Nat.reduceAdd, Nat.reduceLeDiff, reduceIte, reduceCtorEq, tysA, tyA, Ty.enc, Ty.encs])
      | (refine Run.condM ?_; simp -implicitDefEqProofs only [c1, hws, b1, b2, kx, ky, decide_eq_true hxy, w1, w2, d1, d2, Nat.mul_one, rs_slices_insertionSortOrdered_int, Bool.not_eq_true', Bool.not_eq_false', go_sem, eq_self, Nat.reduceEqDiff, Nat.reduceBEq, Nat.reduceAdd, Nat.reduceLeDiff, reduceIte, reduceCtorEq, tysA, tyA, Ty.enc, Ty.encs])
      | (refine XCall.det (Less_ok x y _) ?_; simp -implicitDefEqProofs only [c1, hws, b1, b2, kx, ky, decide_eq_true hxy, w1, w2, d1, d2, Nat.mul_one, rs_slices_insertionSortOrdered_int, Bool.not_eq_true', Bool.not_eq_false', go_sem, eq_self, Nat.reduceEqDiff, Nat.reduceBEq, Nat.reduceAdd, Nat.reduceLeDiff, reduceIte, reduceCtorEq, tysA, tyA, Ty.enc, Ty.encs])
      | (refine xo_gs rfl (fun h => ?_) (fun h => ?_) <;> first | (cases h; done) | simp -implicitDefEqProofs only [c1, hws, b1, b2, kx, ky, decide_eq_true hxy, w1, w2, d1, d2, Nat.mul_one, rs_slices_insertionSortOrdered_int, Bool.not_eq_true', Bool.not_eq_false', go_sem, eq_self, Nat.reduceEqDiff, Nat.reduceBEq, Nat.reduceAdd, Nat.reduceLeDiff, reduceIte, reduceCtorEq, tysA, tyA, Ty.enc, Ty.encs])
      | (refine ⟨fun h => ?_, fun h => ?_⟩ <;> first | (cases h; done) | (simp -implicitDefEqProofs only [h]; done) | (try simp -implicitDefEqProofs only [h]))
      | fail))
        rw [swap_step (by omega) hy]
        refine ih2 p ⟨by omega, fun b hb => ?_⟩ (by omega)
        rw [drop_at hy] at hb
        rcases List.mem_cons.1 hb with rfl | hb
        · exact hxy
        · exact hgt b hb
      · (repeat' (first
      | refine Run.seq ?_
      | refine Run.skip ?_
      | refine Run.block ?_
      | refine Run.blk ?_
      | refine Run.scope ?_
      | refine Run.scp ?_
      | (refine Run.exit rfl ?_)
      | (refine Run.reg mixed ?_; simp -implicitDefEqProofs only [c1, hws, b1, b2, kx, ky, decide_eq_false hxy, Nat.mul_one, hw1, rs_slices_insertionSortOrdered_int, Bool.not_eq_true', Bool.not_eq_false', go_sem, eq_self, Nat.reduceEqDiff, Nat.reduceBEq, Nat.reduceAdd, Nat.reduceLeDiff, reduceIte, reduceCtorEq, tysA, tyA, Ty.enc, Ty.encs])
      | (refine Run.condM ?_; simp -implicitDefEqProofs only [c1, hws, b1, b2, kx, ky, decide_eq_false hxy, Nat.mul_one, hw1, rs_slices_insertionSortOrdered_int, Bool.not_eq_true', Bool.not_eq_false', go_sem, eq_self, Nat.reduceEqDiff, Nat.reduceBEq, Nat.reduceAdd, Nat.reduceLeDiff, reduceIte, reduceCtorEq, tysA, tyA, Ty.enc, Ty.encs])
      | (refine XCall.det (Less_ok x y _) ?_; simp -implicitDefEqProofs only [c1, hws, b1, b2, kx, ky, decide_eq_false hxy, Nat.mul_one, hw1, rs_slices_insertionSortOrdered_int, Bool.not_eq_true', Bool.not_eq_false', go_sem, eq_self, Nat.reduceEqDiff, Nat.reduceBEq, Nat.reduceAdd, Nat.reduceLeDiff, reduceIte, reduceCtorEq, tysA, tyA, Ty.enc, Ty.encs])
      | (refine xo_gs rfl (fun h => ?_) (fun h => ?_) <;> first | (cases h; done) | simp -implicitDefEqProofs only [c1, hws, b1, b2, kx, ky, decide_eq_false hxy, Nat.mul_one, hw1, rs_slices_insertionSortOrdered_int, Bool.not_eq_true', Bool.not_eq_false', go_sem, eq_self, Nat.reduceEqDiff, Nat.reduceBEq, Nat.reduceAdd, Nat.reduceLeDiff, reduceIte, reduceCtorEq, tysA, tyA, Ty.enc, Ty.encs])
      | (refine ⟨fun h => ?_, fun h => ?_⟩ <;> first | (cases h; done) | (simp -implicitDefEqProofs only [h]; done) | (try simp -implicitDefEqProofs only [h]))
      | fail))
        refine ih (i + 1, S.take (p + 1) ++ x :: S.drop (p + 1), R') (fin (fun a ha => ?_)) (by simp only; omega)
        have hst : (S.take (p + 1)).Pairwise (· ≤ ·) := hsort.take
        rw [List.take_add_one, hy] at ha hst
        simp only [Option.toList_some] at ha hst
        rw [List.pairwise_append] at hst
        rcases List.mem_append.1 ha with ha | ha
        · have := hst.2.2 a ha y (by simp); omega
        · simp only [List.mem_singleton] at ha; omega
  · (repeat' (first
      | refine Run.seq ?_
      | refine Run.skip ?_
      | refine Run.block ?_
      | refine Run.blk ?_
      | refine Run.scope ?_
      | refine Run.scp ?_
      | (refine Run.exit rfl ?_)
      | (refine Run.reg mixed ?_; simp -implicitDefEqProofs only [lt_f hlt, rs_slices_insertionSortOrdered_int, Bool.not_eq_true', Bool.not_eq_false', go_sem, eq_self, Nat.reduceEqDiff, Nat.reduceBEq, Nat.reduceAdd, Nat.reduceLeDiff, reduceIte, reduceCtorEq, tysA, tyA, Ty.enc, Ty.encs])
      | (refine Run.condM ?_; simp -implicitDefEqProofs only [lt_f hlt, rs_slices_insertionSortOrdered_int, Bool.not_eq_true', Bool.not_eq_false', go_sem, eq_self, Nat.reduceEqDiff, Nat.reduceBEq, Nat.reduceAdd, Nat.reduceLeDiff, reduceIte, reduceCtorEq, tysA, tyA, Ty.enc, Ty.encs])
      | (refine xo_gs rfl (fun h => ?_) (fun h => ?_) <;> first | (cases h; done) | simp -implicitDefEqProofs only [lt_f hlt, rs_slices_insertionSortOrdered_int, Bool.not_eq_true', Bool.not_eq_false', go_sem, eq_self, Nat.reduceEqDiff, Nat.reduceBEq, Nat.reduceAdd, Nat.reduceLeDiff, reduceIte, reduceCtorEq, tysA, tyA, Ty.enc, Ty.encs])
      | (refine ⟨fun h => ?_, fun h => ?_⟩ <;> first | (cases h; done) | (simp -implicitDefEqProofs only [h]; done) | (try simp -implicitDefEqProofs only [h]))
      | fail))
    have hR : R = [] := by
      rcases hi with hi | hi
      · rcases hSl with h | h
        · exact List.length_eq_zero_iff.1 (by omega)
        · rw [h] at hlen; exact List.length_eq_zero_iff.1 (by rw [List.length_nil] at hlen; omega)
      · rw [hi] at hlen; exact List.length_eq_zero_iff.1 (by rw [List.length_nil] at hlen; omega)
    subst hR
    exact Run.fin g_slices_insertionSortOrdered_int rfl (fun _ _ h => h) (Heap.le_refl _) ⟨rfl, S ++ [], hperm, by simpa using hsort, rfl⟩

theorem insNil_ok (σ : Heap) : ACalls Tryd.prog 133 [.nils, .d (.int .i64 0), .d (.int .i64 0)] σ (fun v σ' => v = .tup [] ∧ σ' = σ) := by
  refine i_slices_insertionSortOrdered_int (by simp) ?_
  rw [argF_3]
  have h01 : IntKind.i64.wrap ((0 : Int) + 1) = 1 := by decide
  have c0 : decide ((1 : Int) < 0) = false := by decide
  (repeat' (first
      | refine Run.seq ?_
      | refine Run.skip ?_
      | refine Run.block ?_
      | refine Run.blk ?_
      | refine Run.scope ?_
      | refine Run.scp ?_
      | (refine Run.exit rfl ?_)
      | (refine Run.reg mixed ?_; simp -implicitDefEqProofs only [h01, c0, rs_slices_insertionSortOrdered_int, Bool.not_eq_true', Bool.not_eq_false', go_sem, eq_self, Nat.reduceEqDiff, Nat.reduceBEq, Nat.reduceAdd, Nat.reduceLeDiff, reduceIte, reduceCtorEq, tysA, tyA, Ty.enc, Ty.encs])
      | (refine Run.condM ?_; simp -implicitDefEqProofs only [h01, c0, rs_slices_insertionSortOrdered_int, Bool.not_eq_true', Bool.not_eq_false', go_sem, eq_self, Nat.reduceEqDiff, Nat.reduceBEq, Nat.reduceAdd, Nat.reduceLeDiff, reduceIte, reduceCtorEq, tysA, tyA, Ty.enc, Ty.encs])
      | (refine Run.loop ?_; (try simp -implicitDefEqProofs only [h01, c0, rs_slices_insertionSortOrdered_int, Bool.not_eq_true', Bool.not_eq_false', go_sem, eq_self, Nat.reduceEqDiff, Nat.reduceBEq, Nat.reduceAdd, Nat.reduceLeDiff, reduceIte, reduceCtorEq, tysA, tyA, Ty.enc, Ty.encs]))
      | (refine xo_gs rfl (fun h => ?_) (fun h => ?_) <;> first | (cases h; done) | simp -implicitDefEqProofs only [h01, c0, rs_slices_insertionSortOrdered_int, Bool.not_eq_true', Bool.not_eq_false', go_sem, eq_self, Nat.reduceEqDiff, Nat.reduceBEq, Nat.reduceAdd, Nat.reduceLeDiff, reduceIte, reduceCtorEq, tysA, tyA, Ty.enc, Ty.encs])
      | (refine ⟨fun h => ?_, fun h => ?_⟩ <;> first | (cases h; done) | (simp -implicitDefEqProofs only [h]; done) | (try simp -implicitDefEqProofs only [h]))
      | fail))
  exact Run.fin g_slices_insertionSortOrdered_int rfl (fun _ _ h => h) (Heap.le_refl _) ⟨rfl, rfl⟩

theorem pdq_ok {σ σ0 : Heap} {l : List Int} {v : AV} {k : Int} (hl : l.length ≤ 12) (hm : MI σ0 l v σ) :
    ACalls Tryd.prog 115 [v, .d (.int .i64 0), .d (.int .i64 l.length), .d (.int .i64 k)] σ (fun u σ' => u = .tup [] ∧ ∃ l', l'.Perm l ∧ l'.Pairwise (· ≤ ·) ∧ MI σ0 l' v σ') := by
  refine i_slices_pdqsortOrdered_int (by simp) ?_
  rw [argF_4]
  have hw : IntKind.i64.wrap ((l.length : Int) - 0) = (l.length : Int) := by rw [wrap_pos (by omega) (by omega)]; omega
  have c12 : decide ((l.length : Int) ≤ 12) = true := by simp; omega
  rcases hm with ⟨rfl, rfl, rfl⟩ | ⟨j, hj, rfl, rfl⟩
  · have hw0 : IntKind.i64.wrap ((0 : Int) - 0) = 0 := by decide
    have c0 : decide ((0 : Int) ≤ 12) = true := by decide
    simp only [List.length_nil, Int.ofNat_zero, Int.natCast_zero]
    (repeat' (first
      | refine Run.seq ?_
      | refine Run.skip ?_
      | refine Run.block ?_
      | refine Run.blk ?_
      | refine Run.scope ?_
      | refine Run.scp ?_
      | (refine Run.exit rfl ?_)
      | (refine Run.reg mixed ?_; simp -implicitDefEqProofs only [hw0, c0, rs_slices_pdqsortOrdered_int, Bool.not_eq_true', Bool.not_eq_false', go_sem, eq_self, Nat.reduceEqDiff, Nat.reduceBEq, Nat.reduceAdd, Nat.reduceLeDiff, reduceIte, reduceCtorEq, tysA, tyA, Ty.enc, Ty.encs])
      | (refine Run.condM ?_; simp -implicitDefEqProofs only [hw0, c0, rs_slices_pdqsortOrdered_int, Bool.not_eq_true', Bool.not_eq_false', go_sem, eq_self, Nat.reduceEqDiff, Nat.reduceBEq, Nat.reduceAdd, Nat.reduceLeDiff, reduceIte, reduceCtorEq, tysA, tyA, Ty.enc, Ty.encs])
      | (refine Run.loop ?_; (try simp -implicitDefEqProofs only [hw0, c0, rs_slices_pdqsortOrdered_int, Bool.not_eq_true', Bool.not_eq_false', go_sem, eq_self, Nat.reduceEqDiff, Nat.reduceBEq, Nat.reduceAdd, Nat.reduceLeDiff, reduceIte, reduceCtorEq, tysA, tyA, Ty.enc, Ty.encs]))
      | (refine Run.retR g_slices_pdqsortOrdered_int (Heap.le_refl _) ?_; simp -implicitDefEqProofs only [rs_slices_pdqsortOrdered_int, hw0, c0, go_sem, eq_self, Nat.reduceEqDiff, Nat.reduceBEq, Nat.reduceAdd, Nat.reduceLeDiff, reduceIte, reduceCtorEq, tysA, tyA, Ty.enc, Ty.encs])
      | (refine XCall.det (insNil_ok _) ?_; simp -implicitDefEqProofs only [hw0, c0, rs_slices_pdqsortOrdered_int, Bool.not_eq_true', Bool.not_eq_false', go_sem, eq_self, Nat.reduceEqDiff, Nat.reduceBEq, Nat.reduceAdd, Nat.reduceLeDiff, reduceIte, reduceCtorEq, tysA, tyA, Ty.enc, Ty.encs])
      | (refine xo_gs rfl (fun h => ?_) (fun h => ?_) <;> first | (cases h; done) | simp -implicitDefEqProofs only [hw0, c0, rs_slices_pdqsortOrdered_int, Bool.not_eq_true', Bool.not_eq_false', go_sem, eq_self, Nat.reduceEqDiff, Nat.reduceBEq, Nat.reduceAdd, Nat.reduceLeDiff, reduceIte, reduceCtorEq, tysA, tyA, Ty.enc, Ty.encs])
      | (refine ⟨fun h => ?_, fun h => ?_⟩ <;> first | (cases h; done) | (simp -implicitDefEqProofs only [h]; done) | (try simp -implicitDefEqProofs only [h]))
      | fail))
    exact ⟨[], .nil, .nil, .inl ⟨rfl, rfl, rfl⟩⟩
  · (repeat' (first
      | refine Run.seq ?_
      | refine Run.skip ?_
      | refine Run.block ?_
      | refine Run.blk ?_
      | refine Run.scope ?_
      | refine Run.scp ?_
      | (refine Run.exit rfl ?_)
      | (refine Run.reg mixed ?_; simp -implicitDefEqProofs only [hw, c12, rs_slices_pdqsortOrdered_int, Bool.not_eq_true', Bool.not_eq_false', go_sem, eq_self, Nat.reduceEqDiff, Nat.reduceBEq, Nat.reduceAdd, Nat.reduceLeDiff, reduceIte, reduceCtorEq, tysA, tyA, Ty.enc, Ty.encs])
      | (refine Run.condM ?_; simp -implicitDefEqProofs only [hw, c12, rs_slices_pdqsortOrdered_int, Bool.not_eq_true', Bool.not_eq_false', go_sem, eq_self, Nat.reduceEqDiff, Nat.reduceBEq, Nat.reduceAdd, Nat.reduceLeDiff, reduceIte, reduceCtorEq, tysA, tyA, Ty.enc, Ty.encs])
      | (refine Run.loop ?_; (try simp -implicitDefEqProofs only [hw, c12, rs_slices_pdqsortOrdered_int, Bool.not_eq_true', Bool.not_eq_false', go_sem, eq_self, Nat.reduceEqDiff, Nat.reduceBEq, Nat.reduceAdd, Nat.reduceLeDiff, reduceIte, reduceCtorEq, tysA, tyA, Ty.enc, Ty.encs]))
      | (refine XCall.mk rfl (insSort_ok (l := l) (by omega) (by simp only [setBlk_get, if_true])) ?_; rintro _ σ1 ⟨rfl, l', hp, hs, rfl⟩; (try simp -implicitDefEqProofs only [hw, c12, rs_slices_pdqsortOrdered_int, Bool.not_eq_true', Bool.not_eq_false', go_sem, eq_self, Nat.reduceEqDiff, Nat.reduceBEq, Nat.reduceAdd, Nat.reduceLeDiff, reduceIte, reduceCtorEq, tysA, tyA, Ty.enc, Ty.encs]))
      | (refine xo_gs rfl (fun h => ?_) (fun h => ?_) <;> first | (cases h; done) | simp -implicitDefEqProofs only [hw, c12, rs_slices_pdqsortOrdered_int, Bool.not_eq_true', Bool.not_eq_false', go_sem, eq_self, Nat.reduceEqDiff, Nat.reduceBEq, Nat.reduceAdd, Nat.reduceLeDiff, reduceIte, reduceCtorEq, tysA, tyA, Ty.enc, Ty.encs])
      | (refine ⟨fun h => ?_, fun h => ?_⟩ <;> first | (cases h; done) | (simp -implicitDefEqProofs only [h]; done) | (try simp -implicitDefEqProofs only [h]))
      | fail))
    refine Run.retR g_slices_pdqsortOrdered_int (Heap.le_refl _) ?_
    rw [rs_slices_pdqsortOrdered_int]
    simp -implicitDefEqProofs only [go_sem, eq_self, Nat.reduceEqDiff, Nat.reduceBEq, Nat.reduceAdd, Nat.reduceLeDiff, reduceIte, reduceCtorEq, tysA, tyA, Ty.enc, Ty.encs]
    exact ⟨l', hp, hs, .inr ⟨j, hj, by rw [hp.length_eq], rfl⟩⟩

theorem u64_nat {n : Nat} (h : n ≤ 1000) : IntKind.u64.wrap (n : Int) = (n : Int) := by
  simp [IntKind.wrap, IntKind.bits, IntKind.signed]; omega

theorem SortI_ok {σ σ0 : Heap} {l : List Int} {v : AV} (hl : l.length ≤ 12) (hm : MI σ0 l v σ) :
    ACalls Tryd.prog 100 [v] σ (fun u σ' => u = .tup [] ∧ ∃ l', l'.Perm l ∧ l'.Pairwise (· ≤ ·) ∧ MI σ0 l' v σ') := by
  refine i_slices_Sort_int (by simp) ?_
  rw [argF_1]
  have hlen : lenA v = some (.d (.int .i64 l.length)) := by rcases hm with ⟨rfl, rfl, rfl⟩ | ⟨j, hj, rfl, rfl⟩ <;> rfl
  have hnl : v.noLp = true := by rcases hm with ⟨rfl, rfl, rfl⟩ | ⟨j, hj, rfl, rfl⟩ <;> rfl
  (repeat' (first
      | refine Run.seq ?_
      | refine Run.skip ?_
      | refine Run.block ?_
      | refine Run.blk ?_
      | refine Run.scope ?_
      | refine Run.scp ?_
      | (refine Run.exit rfl ?_)
      | (refine Run.reg mixed ?_; simp -implicitDefEqProofs only [hlen, u64_nat (show l.length ≤ 1000 by omega), rs_slices_Sort_int, Bool.not_eq_true', Bool.not_eq_false', go_sem, eq_self, Nat.reduceEqDiff, Nat.reduceBEq, Nat.reduceAdd, Nat.reduceLeDiff, reduceIte, reduceCtorEq, tysA, tyA, Ty.enc, Ty.encs])
      | (refine Run.condM ?_; simp -implicitDefEqProofs only [hlen, u64_nat (show l.length ≤ 1000 by omega), rs_slices_Sort_int, Bool.not_eq_true', Bool.not_eq_false', go_sem, eq_self, Nat.reduceEqDiff, Nat.reduceBEq, Nat.reduceAdd, Nat.reduceLeDiff, reduceIte, reduceCtorEq, tysA, tyA, Ty.enc, Ty.encs])
      | (refine XCall.mk (by simp only [List.all_cons, List.all_nil, hnl, noLp_d, Bool.and_self]) (pdq_ok hl hm) ?_; rintro _ σ1 ⟨rfl, hq⟩; (try simp -implicitDefEqProofs only [hlen, u64_nat (show l.length ≤ 1000 by omega), rs_slices_Sort_int, Bool.not_eq_true', Bool.not_eq_false', go_sem, eq_self, Nat.reduceEqDiff, Nat.reduceBEq, Nat.reduceAdd, Nat.reduceLeDiff, reduceIte, reduceCtorEq, tysA, tyA, Ty.enc, Ty.encs]))
      | (refine XCall.det (bitsLen_ok l.length _ (by omega)) ?_; simp -implicitDefEqProofs only [hlen, u64_nat (show l.length ≤ 1000 by omega), rs_slices_Sort_int, Bool.not_eq_true', Bool.not_eq_false', go_sem, eq_self, Nat.reduceEqDiff, Nat.reduceBEq, Nat.reduceAdd, Nat.reduceLeDiff, reduceIte, reduceCtorEq, tysA, tyA, Ty.enc, Ty.encs])
      | (refine xo_gs rfl (fun h => ?_) (fun h => ?_) <;> first | (cases h; done) | simp -implicitDefEqProofs only [hlen, u64_nat (show l.length ≤ 1000 by omega), rs_slices_Sort_int, Bool.not_eq_true', Bool.not_eq_false', go_sem, eq_self, Nat.reduceEqDiff, Nat.reduceBEq, Nat.reduceAdd, Nat.reduceLeDiff, reduceIte, reduceCtorEq, tysA, tyA, Ty.enc, Ty.encs])
      | (refine ⟨fun h => ?_, fun h => ?_⟩ <;> first | (cases h; done) | (simp -implicitDefEqProofs only [h]; done) | (try simp -implicitDefEqProofs only [h]))
      | fail))
  exact Run.fin g_slices_Sort_int rfl (fun _ _ h => h) (Heap.le_refl _) ⟨rfl, hq⟩

/-! ### Compaction -/

theorem XEx.clr {K : Kont} {F : Fm} {L : Lm} {σ : Heap} {z : List AV} {i o n s e1 : Nat} {cs : List AV} (hs : s = z.length) (hb : σ.blk i = some cs) (h1 : (o + n) * s ≤ cs.length)
    (h : K F L (σ.setBlk i (wr cs (o * s) (List.replicate n z).flatten))) : XEx (.clr z) [.mv i o n s e1] none K F L σ :=
  ⟨rfl, hs, cs, hb, h1, h⟩

def adj (l : List Int) : Prop := ∃ k x, l[k]? = some x ∧ l[k + 1]? = some x

set_option maxHeartbeats 1000000 in
theorem CompactI_ok {σ σ0 : Heap} {l : List Int} {v : AV} (hl : l.length ≤ 1000) (hm : MI σ0 l v σ) :
    ACalls Tryd.prog 101 [v] σ (fun u σ' => σ0.le σ' ∧ ∃ m : Nat, lenA u = some (.d (.int .i64 m)) ∧ (m < l.length ↔ adj l)) := by
  refine i_slices_Compact_int (by simp) ?_
  rw [argF_1]
  by_cases h2 : l.length < 2
  · have hlen : lenA v = some (.d (.int .i64 l.length)) := by rcases hm with ⟨rfl, rfl, rfl⟩ | ⟨j, hj, rfl, rfl⟩ <;> rfl
    have hnl : v.noLp = true := by rcases hm with ⟨rfl, rfl, rfl⟩ | ⟨j, hj, rfl, rfl⟩ <;> rfl
    have c2 : decide ((l.length : Int) < 2) = true := by simp; omega
    (repeat' (first
      | refine Run.seq ?_
      | refine Run.skip ?_
      | refine Run.block ?_
      | refine Run.blk ?_
      | refine Run.scope ?_
      | refine Run.scp ?_
      | (refine Run.exit rfl ?_)
      | (refine Run.reg mixed ?_; simp -implicitDefEqProofs only [hlen, hnl, c2, rs_slices_Compact_int, Bool.not_eq_true', Bool.not_eq_false', go_sem, eq_self, Nat.reduceEqDiff, Nat.reduceBEq, Nat.reduceAdd, Nat.reduceLeDiff, reduceIte, reduceCtorEq, tysA, tyA, Ty.enc, Ty.encs])
      | (refine Run.condM ?_; simp -implicitDefEqProofs only [hlen, hnl, c2, rs_slices_Compact_int, Bool.not_eq_true', Bool.not_eq_false', go_sem, eq_self, Nat.reduceEqDiff, Nat.reduceBEq, Nat.reduceAdd, Nat.reduceLeDiff, reduceIte, reduceCtorEq, tysA, tyA, Ty.enc, Ty.encs])
      | (refine Run.retR g_slices_Compact_int (Heap.le_refl _) ?_; simp -implicitDefEqProofs only [rs_slices_Compact_int, hlen, hnl, c2, go_sem, eq_self, Nat.reduceEqDiff, Nat.reduceBEq, Nat.reduceAdd, Nat.reduceLeDiff, reduceIte, reduceCtorEq, tysA, tyA, Ty.enc, Ty.encs])
      | (refine xo_gs rfl (fun h => ?_) (fun h => ?_) <;> first | (cases h; done) | simp -implicitDefEqProofs only [hlen, hnl, c2, rs_slices_Compact_int, Bool.not_eq_true', Bool.not_eq_false', go_sem, eq_self, Nat.reduceEqDiff, Nat.reduceBEq, Nat.reduceAdd, Nat.reduceLeDiff, reduceIte, reduceCtorEq, tysA, tyA, Ty.enc, Ty.encs])
      | (refine ⟨fun h => ?_, fun h => ?_⟩ <;> first | (cases h; done) | (simp -implicitDefEqProofs only [h]; done) | (try simp -implicitDefEqProofs only [h]))
      | fail))
    refine ⟨?_, l.length, rfl, ⟨fun h => by omega, ?_⟩⟩
    · rcases hm with ⟨rfl, rfl, rfl⟩ | ⟨j, hj, rfl, rfl⟩
      · exact Heap.le_refl _
      · exact le_setBlk hj
    · rintro ⟨k, x, h, h'⟩
      have := (List.getElem?_eq_some_iff.1 h').1
      omega
  have c2 : decide ((l.length : Int) < 2) = false := by simp; omega
  rcases hm with ⟨rfl, _, _⟩ | ⟨j, hj, rfl, rfl⟩
  · simp at h2
  (repeat' (first
      | refine Run.seq ?_
      | refine Run.skip ?_
      | refine Run.block ?_
      | refine Run.blk ?_
      | refine Run.scope ?_
      | refine Run.scp ?_
      | (refine Run.exit rfl ?_)
      | (refine Run.reg mixed ?_; simp -implicitDefEqProofs only [c2, rs_slices_Compact_int, Bool.not_eq_true', Bool.not_eq_false', go_sem, eq_self, Nat.reduceEqDiff, Nat.reduceBEq, Nat.reduceAdd, Nat.reduceLeDiff, reduceIte, reduceCtorEq, tysA, tyA, Ty.enc, Ty.encs])
      | (refine Run.condM ?_; simp -implicitDefEqProofs only [c2, rs_slices_Compact_int, Bool.not_eq_true', Bool.not_eq_false', go_sem, eq_self, Nat.reduceEqDiff, Nat.reduceBEq, Nat.reduceAdd, Nat.reduceLeDiff, reduceIte, reduceCtorEq, tysA, tyA, Ty.enc, Ty.encs])
      | (refine xo_gs rfl (fun h => ?_) (fun h => ?_) <;> first | (cases h; done) | simp -implicitDefEqProofs only [c2, rs_slices_Compact_int, Bool.not_eq_true', Bool.not_eq_false', go_sem, eq_self, Nat.reduceEqDiff, Nat.reduceBEq, Nat.reduceAdd, Nat.reduceLeDiff, reduceIte, reduceCtorEq, tysA, tyA, Ty.enc, Ty.encs])
      | (refine ⟨fun h => ?_, fun h => ?_⟩ <;> first | (cases h; done) | (simp -implicitDefEqProofs only [h]; done) | (try simp -implicitDefEqProofs only [h]))
      | fail))
  refine Run.loopA ?_
  refine Run.loopI ((fun (a0 : AV) => fun (k : Nat) => put 0 a0 (put 3 (.d (.int .i64 k)) U)) _) (fun _ => E) (fun _ => σ0.setBlk j (ints l)) (fun k => 1 ≤ k ∧ k ≤ l.length ∧ ∀ i x, i + 1 < k → l[i]? = some x → l[i + 1]? ≠ some x) (fun k => l.length - k) ?_ 1 ⟨by omega, by omega, fun i x h => by omega⟩
  rintro k ⟨hk1, hkl, hno⟩ ih
  by_cases hlt : k < l.length
  · obtain ⟨q, rfl⟩ : ∃ q, k = q + 1 := ⟨k - 1, by omega⟩
    obtain ⟨x, hx⟩ := ex_at (show q < l.length by omega)
    obtain ⟨y, hy⟩ := ex_at hlt
    have kx := ints_get hx
    have ky := ints_get hy
    have hws : IntKind.i64.wrap (((q + 1 : Nat) : Int) - 1) = (q : Int) := by rw [wrap_pos (by omega) (by omega)]; omega
    have hw1 := wrap_succ (show q + 1 + 1 ≤ 9000000000000000000 by omega)
    have b1 : (((q + 1 : Nat) : Int) < (l.length : Int)) = True := by simp only [eq_iff_iff, iff_true]; omega
    have b2 : ((q : Int) < (l.length : Int)) = True := by simp only [eq_iff_iff, iff_true]; omega
    have hn1 : natA (.d (.int .i64 ((q + 1 : Nat) : Int))) = some (q + 1) := by simp only [natA, Int.toNat_natCast, if_pos (Int.natCast_nonneg _)]
    by_cases hxy : y = x
    · have hadj : adj l := ⟨q, x, hx, by rw [hy, hxy]⟩
      have hin1 : (q + 1 ≤ l.length) = True := by simp; omega
      (repeat' (first
      | refine Run.seq ?_
      | refine Run.skip ?_
      | refine Run.block ?_
      | refine Run.blk ?_
      | refine Run.scope ?_
      | refine Run.scp ?_
      | (refine Run.exit rfl ?_)
      | (refine Run.reg mixed ?_; simp -implicitDefEqProofs only [lt_t hlt, hws, b1, b2, kx, ky, beqT hxy, Nat.mul_one, hn1, hin1, rs_slices_Compact_int, Bool.not_eq_true', Bool.not_eq_false', go_sem, eq_self, Nat.reduceEqDiff, Nat.reduceBEq, Nat.reduceAdd, Nat.reduceLeDiff, reduceIte, reduceCtorEq, tysA, tyA, Ty.enc, Ty.encs])
      | (refine Run.condM ?_; simp -implicitDefEqProofs only [lt_t hlt, hws, b1, b2, kx, ky, beqT hxy, Nat.mul_one, hn1, hin1, rs_slices_Compact_int, Bool.not_eq_true', Bool.not_eq_false', go_sem, eq_self, Nat.reduceEqDiff, Nat.reduceBEq, Nat.reduceAdd, Nat.reduceLeDiff, reduceIte, reduceCtorEq, tysA, tyA, Ty.enc, Ty.encs])
      | (refine xo_gs rfl (fun h => ?_) (fun h => ?_) <;> first | (cases h; done) | simp -implicitDefEqProofs only [lt_t hlt, hws, b1, b2, kx, ky, beqT hxy, Nat.mul_one, hn1, hin1, rs_slices_Compact_int, Bool.not_eq_true', Bool.not_eq_false', go_sem, eq_self, Nat.reduceEqDiff, Nat.reduceBEq, Nat.reduceAdd, Nat.reduceLeDiff, reduceIte, reduceCtorEq, tysA, tyA, Ty.enc, Ty.encs])
      | (refine ⟨fun h => ?_, fun h => ?_⟩ <;> first | (cases h; done) | (simp -implicitDefEqProofs only [h]; done) | (try simp -implicitDefEqProofs only [h]))
      | fail))
      refine Run.loopA ?_
      refine Run.loopI ((fun (a0 : AV) (a4 : AV) => fun (z : Nat × Nat × List Int) => put 0 a0 (put 3 (.d (.int .i64 z.1)) (put 4 a4 (put 5 (.d (.int .i64 z.2.1)) U)))) _ _) (fun _ => E) (fun z => σ0.setBlk j (ints z.2.2))
        (fun z => z.2.2.length = l.length ∧ q + 1 ≤ z.1 ∧ z.1 + 1 ≤ q + 1 + z.2.1 ∧ 1 ≤ z.2.1 ∧ z.2.1 ≤ l.length - (q + 1)) (fun z => l.length - z.2.1) ?_ (q + 1, 1, l) ⟨rfl, Nat.le_refl _, by simp only; omega, Nat.le_refl _, by simp only; omega⟩
      rintro ⟨k, k2, cur⟩ ⟨hcl, hk, hkk, hk2, hk2l⟩ ih2
      simp only at hcl hk hkk hk2 hk2l
      have hn : natA (.d (.int .i64 (k : Int))) = some k := by simp only [natA, Int.toNat_natCast, if_pos (Int.natCast_nonneg _)]
      by_cases hlt2 : k2 < l.length - (q + 1)
      · obtain ⟨p, rfl⟩ : ∃ p, k2 = p + 1 := ⟨k2 - 1, by omega⟩
        obtain ⟨x', hx'⟩ := ex_at (show q + 1 + p < cur.length by omega)
        obtain ⟨y', hy'⟩ := ex_at (show q + 1 + (p + 1) < cur.length by omega)
        have kx' := ints_get hx'
        have ky' := ints_get hy'
        have hws' : IntKind.i64.wrap (((p + 1 : Nat) : Int) - 1) = (p : Int) := by rw [wrap_pos (by omega) (by omega)]; omega
        have hw1' := wrap_succ (show p + 1 + 1 ≤ 9000000000000000000 by omega)
        have hwk := wrap_succ (show k + 1 ≤ 9000000000000000000 by omega)
        have b1' : (((p + 1 : Nat) : Int) < ((l.length - (q + 1) : Nat) : Int)) = True := by simp only [eq_iff_iff, iff_true]; omega
        have b2' : ((p : Int) < ((l.length - (q + 1) : Nat) : Int)) = True := by simp only [eq_iff_iff, iff_true]; omega
        have b3' : ((k : Int) < (l.length : Int)) = True := by simp only [eq_iff_iff, iff_true]; omega
        by_cases hne : y' = x'
        · have hne' : (y' != x') = false := by simpa using hne
          (repeat' (first
      | refine Run.seq ?_
      | refine Run.skip ?_
      | refine Run.block ?_
      | refine Run.blk ?_
      | refine Run.scope ?_
      | refine Run.scp ?_
      | (refine Run.exit rfl ?_)
      | (refine Run.reg mixed ?_; simp -implicitDefEqProofs only [lt_t hlt2, hws', hw1', b1', b2', kx', ky', hne', Nat.mul_one, rs_slices_Compact_int, Bool.not_eq_true', Bool.not_eq_false', go_sem, eq_self, Nat.reduceEqDiff, Nat.reduceBEq, Nat.reduceAdd, Nat.reduceLeDiff, reduceIte, reduceCtorEq, tysA, tyA, Ty.enc, Ty.encs])
      | (refine Run.condM ?_; simp -implicitDefEqProofs only [lt_t hlt2, hws', hw1', b1', b2', kx', ky', hne', Nat.mul_one, rs_slices_Compact_int, Bool.not_eq_true', Bool.not_eq_false', go_sem, eq_self, Nat.reduceEqDiff, Nat.reduceBEq, Nat.reduceAdd, Nat.reduceLeDiff, reduceIte, reduceCtorEq, tysA, tyA, Ty.enc, Ty.encs])
      | (refine xo_gs rfl (fun h => ?_) (fun h => ?_) <;> first | (cases h; done) | simp -implicitDefEqProofs only [lt_t hlt2, hws', hw1', b1', b2', kx', ky', hne', Nat.mul_one, rs_slices_Compact_int, Bool.not_eq_true', Bool.not_eq_false', go_sem, eq_self, Nat.reduceEqDiff, Nat.reduceBEq, Nat.reduceAdd, Nat.reduceLeDiff, reduceIte, reduceCtorEq, tysA, tyA, Ty.enc, Ty.encs])
      | (refine ⟨fun h => ?_, fun h => ?_⟩ <;> first | (cases h; done) | (simp -implicitDefEqProofs only [h]; done) | (try simp -implicitDefEqProofs only [h]))
      | fail))
          exact ih2 (k, p + 1 + 1, cur) ⟨hcl, hk, by simp only; omega, by simp only; omega, by simp only; omega⟩ (by simp only; omega)
        · have hne' : (y' != x') = true := by simpa using hne
          have w1 := ints_wr (l := cur) (k := k) y' (by omega)
          simp only [wr, List.length_cons, List.length_nil, Nat.zero_add] at w1
          have d1 : (k + (0 + 1) ≤ (ints cur).length) = True := by rw [ints_len, hcl]; simp; omega
          (repeat' (first
      | refine Run.seq ?_
      | refine Run.skip ?_
      | refine Run.block ?_
      | refine Run.blk ?_
      | refine Run.scope ?_
      | refine Run.scp ?_
      | (refine Run.exit rfl ?_)
      | (refine Run.reg mixed ?_; simp -implicitDefEqProofs only [lt_t hlt2, hws', hw1', hwk, b1', b2', b3', kx', ky', hne', w1, d1, Nat.mul_one, rs_slices_Compact_int, Bool.not_eq_true', Bool.not_eq_false', go_sem, eq_self, Nat.reduceEqDiff, Nat.reduceBEq, Nat.reduceAdd, Nat.reduceLeDiff, reduceIte, reduceCtorEq, tysA, tyA, Ty.enc, Ty.encs])
      | (refine Run.condM ?_; simp -implicitDefEqProofs only [lt_t hlt2, hws', hw1', hwk, b1', b2', b3', kx', ky', hne', w1, d1, Nat.mul_one, rs_slices_Compact_int, Bool.not_eq_true', Bool.not_eq_false', go_sem, eq_self, Nat.reduceEqDiff, Nat.reduceBEq, Nat.reduceAdd, Nat.reduceLeDiff, reduceIte, reduceCtorEq, tysA, tyA, Ty.enc, Ty.encs])
      | (refine xo_gs rfl (fun h => ?_) (fun h => ?_) <;> first | (cases h; done) | simp -implicitDefEqProofs only [lt_t hlt2, hws', hw1', hwk, b1', b2', b3', kx', ky', hne', w1, d1, Nat.mul_one, rs_slices_Compact_int, Bool.not_eq_true', Bool.not_eq_false', go_sem, eq_self, Nat.reduceEqDiff, Nat.reduceBEq, Nat.reduceAdd, Nat.reduceLeDiff, reduceIte, reduceCtorEq, tysA, tyA, Ty.enc, Ty.encs])
      | (refine ⟨fun h => ?_, fun h => ?_⟩ <;> first | (cases h; done) | (simp -implicitDefEqProofs only [h]; done) | (try simp -implicitDefEqProofs only [h]))
      | fail))
          exact ih2 (k + 1, p + 1 + 1, cur.set k y') ⟨by simpa using hcl, by simp only; omega, by simp only; omega, by simp only; omega, by simp only; omega⟩ (by simp only; omega)
      · have hin : (k ≤ l.length) = True := by simp; omega
        have hcb : (k + (l.length - k)) * 1 ≤ (ints cur).length := by rw [ints_len]; omega
        (repeat' (first
      | refine Run.seq ?_
      | refine Run.skip ?_
      | refine Run.block ?_
      | refine Run.blk ?_
      | refine Run.scope ?_
      | refine Run.scp ?_
      | (refine Run.exit rfl ?_)
      | (refine Run.reg mixed ?_; simp -implicitDefEqProofs only [lt_f hlt2, hn, hin, Nat.mul_one, rs_slices_Compact_int, Bool.not_eq_true', Bool.not_eq_false', go_sem, eq_self, Nat.reduceEqDiff, Nat.reduceBEq, Nat.reduceAdd, Nat.reduceLeDiff, reduceIte, reduceCtorEq, tysA, tyA, Ty.enc, Ty.encs])
      | (refine Run.condM ?_; simp -implicitDefEqProofs only [lt_f hlt2, hn, hin, Nat.mul_one, rs_slices_Compact_int, Bool.not_eq_true', Bool.not_eq_false', go_sem, eq_self, Nat.reduceEqDiff, Nat.reduceBEq, Nat.reduceAdd, Nat.reduceLeDiff, reduceIte, reduceCtorEq, tysA, tyA, Ty.enc, Ty.encs])
      | (refine XEx.clr (cs := ints cur) rfl (by simp only [setBlk_get, if_true]) hcb ?_; (try simp -implicitDefEqProofs only [lt_f hlt2, hn, hin, Nat.mul_one, rs_slices_Compact_int, Bool.not_eq_true', Bool.not_eq_false', go_sem, eq_self, Nat.reduceEqDiff, Nat.reduceBEq, Nat.reduceAdd, Nat.reduceLeDiff, reduceIte, reduceCtorEq, tysA, tyA, Ty.enc, Ty.encs]))
      | (refine Run.retR g_slices_Compact_int (Heap.le_refl _) ?_; simp -implicitDefEqProofs only [rs_slices_Compact_int, lt_f hlt2, hn, hin, Nat.mul_one, go_sem, eq_self, Nat.reduceEqDiff, Nat.reduceBEq, Nat.reduceAdd, Nat.reduceLeDiff, reduceIte, reduceCtorEq, tysA, tyA, Ty.enc, Ty.encs])
      | (refine xo_gs rfl (fun h => ?_) (fun h => ?_) <;> first | (cases h; done) | simp -implicitDefEqProofs only [lt_f hlt2, hn, hin, Nat.mul_one, rs_slices_Compact_int, Bool.not_eq_true', Bool.not_eq_false', go_sem, eq_self, Nat.reduceEqDiff, Nat.reduceBEq, Nat.reduceAdd, Nat.reduceLeDiff, reduceIte, reduceCtorEq, tysA, tyA, Ty.enc, Ty.encs])
      | (refine ⟨fun h => ?_, fun h => ?_⟩ <;> first | (cases h; done) | (simp -implicitDefEqProofs only [h]; done) | (try simp -implicitDefEqProofs only [h]))
      | fail))
        exact ⟨le_setBlk hj, k, rfl, fun _ => hadj, fun _ => by omega⟩
    · (repeat' (first
      | refine Run.seq ?_
      | refine Run.skip ?_
      | refine Run.block ?_
      | refine Run.blk ?_
      | refine Run.scope ?_
      | refine Run.scp ?_
      | (refine Run.exit rfl ?_)
      | (refine Run.reg mixed ?_; simp -implicitDefEqProofs only [lt_t hlt, hws, hw1, b1, b2, kx, ky, beqF hxy, Nat.mul_one, rs_slices_Compact_int, Bool.not_eq_true', Bool.not_eq_false', go_sem, eq_self, Nat.reduceEqDiff, Nat.reduceBEq, Nat.reduceAdd, Nat.reduceLeDiff, reduceIte, reduceCtorEq, tysA, tyA, Ty.enc, Ty.encs])
      | (refine Run.condM ?_; simp -implicitDefEqProofs only [lt_t hlt, hws, hw1, b1, b2, kx, ky, beqF hxy, Nat.mul_one, rs_slices_Compact_int, Bool.not_eq_true', Bool.not_eq_false', go_sem, eq_self, Nat.reduceEqDiff, Nat.reduceBEq, Nat.reduceAdd, Nat.reduceLeDiff, reduceIte, reduceCtorEq, tysA, tyA, Ty.enc, Ty.encs])
      | (refine xo_gs rfl (fun h => ?_) (fun h => ?_) <;> first | (cases h; done) | simp -implicitDefEqProofs only [lt_t hlt, hws, hw1, b1, b2, kx, ky, beqF hxy, Nat.mul_one, rs_slices_Compact_int, Bool.not_eq_true', Bool.not_eq_false', go_sem, eq_self, Nat.reduceEqDiff, Nat.reduceBEq, Nat.reduceAdd, Nat.reduceLeDiff, reduceIte, reduceCtorEq, tysA, tyA, Ty.enc, Ty.encs])
      | (refine ⟨fun h => ?_, fun h => ?_⟩ <;> first | (cases h; done) | (simp -implicitDefEqProofs only [h]; done) | (try simp -implicitDefEqProofs only [h]))
      | fail))
      refine ih (q + 1 + 1) ⟨by omega, by omega, fun i z hi hz => ?_⟩ (by omega)
      by_cases hq : i + 1 < q + 1
      · exact hno i z hq hz
      · have : i = q := by omega
        subst this
        rw [hx] at hz; cases hz
        rw [hy]
        intro h; cases h; exact hxy rfl
  · (repeat' (first
      | refine Run.seq ?_
      | refine Run.skip ?_
      | refine Run.block ?_
      | refine Run.blk ?_
      | refine Run.scope ?_
      | refine Run.scp ?_
      | (refine Run.exit rfl ?_)
      | (refine Run.reg mixed ?_; simp -implicitDefEqProofs only [lt_f hlt, rs_slices_Compact_int, Bool.not_eq_true', Bool.not_eq_false', go_sem, eq_self, Nat.reduceEqDiff, Nat.reduceBEq, Nat.reduceAdd, Nat.reduceLeDiff, reduceIte, reduceCtorEq, tysA, tyA, Ty.enc, Ty.encs])
      | (refine Run.condM ?_; simp -implicitDefEqProofs only [lt_f hlt, rs_slices_Compact_int, Bool.not_eq_true', Bool.not_eq_false', go_sem, eq_self, Nat.reduceEqDiff, Nat.reduceBEq, Nat.reduceAdd, Nat.reduceLeDiff, reduceIte, reduceCtorEq, tysA, tyA, Ty.enc, Ty.encs])
      | (refine Run.retR g_slices_Compact_int (Heap.le_refl _) ?_; simp -implicitDefEqProofs only [rs_slices_Compact_int, lt_f hlt, go_sem, eq_self, Nat.reduceEqDiff, Nat.reduceBEq, Nat.reduceAdd, Nat.reduceLeDiff, reduceIte, reduceCtorEq, tysA, tyA, Ty.enc, Ty.encs])
      | (refine xo_gs rfl (fun h => ?_) (fun h => ?_) <;> first | (cases h; done) | simp -implicitDefEqProofs only [lt_f hlt, rs_slices_Compact_int, Bool.not_eq_true', Bool.not_eq_false', go_sem, eq_self, Nat.reduceEqDiff, Nat.reduceBEq, Nat.reduceAdd, Nat.reduceLeDiff, reduceIte, reduceCtorEq, tysA, tyA, Ty.enc, Ty.encs])
      | (refine ⟨fun h => ?_, fun h => ?_⟩ <;> first | (cases h; done) | (simp -implicitDefEqProofs only [h]; done) | (try simp -implicitDefEqProofs only [h]))
      | fail))
    refine ⟨le_setBlk hj, l.length, rfl, fun h => by omega, ?_⟩
    rintro ⟨i, x, h, h'⟩
    have := (List.getElem?_eq_some_iff.1 h').1
    exact absurd h' (hno i x (by omega) h)

theorem adj_iff {l l' : List Int} (hp : l'.Perm l) (hs : l'.Pairwise (· ≤ ·)) : adj l' ↔ ¬ l.Nodup := by
  rw [← hp.nodup_iff]
  constructor
  · rintro ⟨k, x, h, h'⟩ hn
    have h1 := (List.getElem?_eq_some_iff.1 h)
    have h2 := (List.getElem?_eq_some_iff.1 h')
    have := (List.pairwise_iff_getElem.1 hn) k (k + 1) h1.1 h2.1 (by omega)
    rw [h1.2, h2.2] at this
    exact this rfl
  · intro hn
    refine Classical.byContradiction fun ha => hn ?_
    rw [List.Nodup, List.pairwise_iff_getElem]
    intro i j hi hj hij he
    have hs' := List.pairwise_iff_getElem.1 hs
    -- all between are equal
    have h1 : l'[i] ≤ l'[i + 1]'(by omega) := hs' i (i + 1) hi (by omega) (by omega)
    have h2 : l'[i + 1]'(by omega) ≤ l'[j] := by
      rcases Nat.lt_or_ge (i + 1) j with h | h
      · exact hs' (i + 1) j (by omega) hj h
      · have : j = i + 1 := by omega
        subst this; exact Int.le_refl _
    have h3 : l'[i + 1]'(by omega) = l'[i] := by omega
    exact ha ⟨i, l'[i], by simp, by rw [List.getElem?_eq_getElem (by omega), h3]⟩

def dupB (l : List Int) : Bool := !decide l.Nodup

theorem repeated_ok (l : List Int) (σ : Heap) (hl : l.length ≤ 12) : ACalls Tryd.prog 76 [isA l] σ (fun v σ' => v = .d (.bool (dupB l)) ∧ σ' = σ) := by
  refine i_linear_repeated (by simp) ?_
  rw [argF_1, isA]
  (repeat' (first
      | refine Run.seq ?_
      | refine Run.skip ?_
      | refine Run.block ?_
      | refine Run.blk ?_
      | refine Run.scope ?_
      | refine Run.scp ?_
      | (refine Run.exit rfl ?_)
      | (refine Run.reg mixed ?_; simp -implicitDefEqProofs only [rs_linear_repeated, Bool.not_eq_true', Bool.not_eq_false', go_sem, eq_self, Nat.reduceEqDiff, Nat.reduceBEq, Nat.reduceAdd, Nat.reduceLeDiff, reduceIte, reduceCtorEq, tysA, tyA, Ty.enc, Ty.encs])
      | (refine Run.condM ?_; simp -implicitDefEqProofs only [rs_linear_repeated, Bool.not_eq_true', Bool.not_eq_false', go_sem, eq_self, Nat.reduceEqDiff, Nat.reduceBEq, Nat.reduceAdd, Nat.reduceLeDiff, reduceIte, reduceCtorEq, tysA, tyA, Ty.enc, Ty.encs])
      | (refine XCall.mk rfl (CloneI_ok l σ (by omega)) ?_; intro v σ1 hm; (try simp -implicitDefEqProofs only [rs_linear_repeated, Bool.not_eq_true', Bool.not_eq_false', go_sem, eq_self, Nat.reduceEqDiff, Nat.reduceBEq, Nat.reduceAdd, Nat.reduceLeDiff, reduceIte, reduceCtorEq, tysA, tyA, Ty.enc, Ty.encs]))
      | (refine xo_gs rfl (fun h => ?_) (fun h => ?_) <;> first | (cases h; done) | simp -implicitDefEqProofs only [rs_linear_repeated, Bool.not_eq_true', Bool.not_eq_false', go_sem, eq_self, Nat.reduceEqDiff, Nat.reduceBEq, Nat.reduceAdd, Nat.reduceLeDiff, reduceIte, reduceCtorEq, tysA, tyA, Ty.enc, Ty.encs])
      | (refine ⟨fun h => ?_, fun h => ?_⟩ <;> first | (cases h; done) | (simp -implicitDefEqProofs only [h]; done) | (try simp -implicitDefEqProofs only [h]))
      | fail))
  have hnl : v.noLp = true := by rcases hm with ⟨rfl, rfl, rfl⟩ | ⟨j, hj, rfl, rfl⟩ <;> rfl
  (repeat' (first
      | refine Run.seq ?_
      | refine Run.skip ?_
      | refine Run.block ?_
      | refine Run.blk ?_
      | refine Run.scope ?_
      | refine Run.scp ?_
      | (refine Run.exit rfl ?_)
      | (refine Run.reg mixed ?_; simp -implicitDefEqProofs only [rs_linear_repeated, Bool.not_eq_true', Bool.not_eq_false', go_sem, eq_self, Nat.reduceEqDiff, Nat.reduceBEq, Nat.reduceAdd, Nat.reduceLeDiff, reduceIte, reduceCtorEq, tysA, tyA, Ty.enc, Ty.encs])
      | (refine Run.condM ?_; simp -implicitDefEqProofs only [rs_linear_repeated, Bool.not_eq_true', Bool.not_eq_false', go_sem, eq_self, Nat.reduceEqDiff, Nat.reduceBEq, Nat.reduceAdd, Nat.reduceLeDiff, reduceIte, reduceCtorEq, tysA, tyA, Ty.enc, Ty.encs])
      | (refine XCall.mk (by simp only [List.all_cons, List.all_nil, hnl, Bool.and_self]) (SortI_ok hl hm) ?_; rintro _ σ2 ⟨rfl, l', hp, hs, hm2⟩; (try simp -implicitDefEqProofs only [rs_linear_repeated, Bool.not_eq_true', Bool.not_eq_false', go_sem, eq_self, Nat.reduceEqDiff, Nat.reduceBEq, Nat.reduceAdd, Nat.reduceLeDiff, reduceIte, reduceCtorEq, tysA, tyA, Ty.enc, Ty.encs]))
      | (refine xo_gs rfl (fun h => ?_) (fun h => ?_) <;> first | (cases h; done) | simp -implicitDefEqProofs only [rs_linear_repeated, Bool.not_eq_true', Bool.not_eq_false', go_sem, eq_self, Nat.reduceEqDiff, Nat.reduceBEq, Nat.reduceAdd, Nat.reduceLeDiff, reduceIte, reduceCtorEq, tysA, tyA, Ty.enc, Ty.encs])
      | (refine ⟨fun h => ?_, fun h => ?_⟩ <;> first | (cases h; done) | (simp -implicitDefEqProofs only [h]; done) | (try simp -implicitDefEqProofs only [h]))
      | fail))
  have hl' : l'.length = l.length := hp.length_eq
  (repeat' (first
      | refine Run.seq ?_
      | refine Run.skip ?_
      | refine Run.block ?_
      | refine Run.blk ?_
      | refine Run.scope ?_
      | refine Run.scp ?_
      | (refine Run.exit rfl ?_)
      | (refine Run.reg mixed ?_; simp -implicitDefEqProofs only [rs_linear_repeated, Bool.not_eq_true', Bool.not_eq_false', go_sem, eq_self, Nat.reduceEqDiff, Nat.reduceBEq, Nat.reduceAdd, Nat.reduceLeDiff, reduceIte, reduceCtorEq, tysA, tyA, Ty.enc, Ty.encs])
      | (refine Run.condM ?_; simp -implicitDefEqProofs only [rs_linear_repeated, Bool.not_eq_true', Bool.not_eq_false', go_sem, eq_self, Nat.reduceEqDiff, Nat.reduceBEq, Nat.reduceAdd, Nat.reduceLeDiff, reduceIte, reduceCtorEq, tysA, tyA, Ty.enc, Ty.encs])
      | (refine XCall.mk (by simp only [List.all_cons, List.all_nil, hnl, Bool.and_self]) (CompactI_ok (by omega) hm2) ?_; rintro u σ3 ⟨hle, m, hlen, hiff⟩; (try simp -implicitDefEqProofs only [rs_linear_repeated, Bool.not_eq_true', Bool.not_eq_false', go_sem, eq_self, Nat.reduceEqDiff, Nat.reduceBEq, Nat.reduceAdd, Nat.reduceLeDiff, reduceIte, reduceCtorEq, tysA, tyA, Ty.enc, Ty.encs]))
      | (refine xo_gs rfl (fun h => ?_) (fun h => ?_) <;> first | (cases h; done) | simp -implicitDefEqProofs only [rs_linear_repeated, Bool.not_eq_true', Bool.not_eq_false', go_sem, eq_self, Nat.reduceEqDiff, Nat.reduceBEq, Nat.reduceAdd, Nat.reduceLeDiff, reduceIte, reduceCtorEq, tysA, tyA, Ty.enc, Ty.encs])
      | (refine ⟨fun h => ?_, fun h => ?_⟩ <;> first | (cases h; done) | (simp -implicitDefEqProofs only [h]; done) | (try simp -implicitDefEqProofs only [h]))
      | fail))
  have hb : decide ((m : Int) < (l.length : Int)) = dupB l := by
    rw [adj_iff hp hs, hl'] at hiff
    unfold dupB
    rw [Bool.eq_iff_iff]
    simp only [decide_eq_true_eq, Bool.not_eq_true', decide_eq_false_iff_not]
    rw [← hiff]; omega
  simp -implicitDefEqProofs only [hlen, hb, List.length_map, go_sem, eq_self, Nat.reduceEqDiff, Nat.reduceBEq, Nat.reduceAdd, Nat.reduceLeDiff, reduceIte, reduceCtorEq, tysA, tyA, Ty.enc, Ty.encs]
  (repeat' (first
      | refine Run.seq ?_
      | refine Run.skip ?_
      | refine Run.block ?_
      | refine Run.blk ?_
      | refine Run.scope ?_
      | refine Run.scp ?_
      | (refine Run.exit rfl ?_)
      | (refine Run.reg mixed ?_; simp -implicitDefEqProofs only [hlen, hb, List.length_map, rs_linear_repeated, Bool.not_eq_true', Bool.not_eq_false', go_sem, eq_self, Nat.reduceEqDiff, Nat.reduceBEq, Nat.reduceAdd, Nat.reduceLeDiff, reduceIte, reduceCtorEq, tysA, tyA, Ty.enc, Ty.encs])
      | (refine Run.condM ?_; simp -implicitDefEqProofs only [hlen, hb, List.length_map, rs_linear_repeated, Bool.not_eq_true', Bool.not_eq_false', go_sem, eq_self, Nat.reduceEqDiff, Nat.reduceBEq, Nat.reduceAdd, Nat.reduceLeDiff, reduceIte, reduceCtorEq, tysA, tyA, Ty.enc, Ty.encs])
      | (refine Run.retP g_linear_repeated (σ2 := σ) hle ?_; (try simp -implicitDefEqProofs only [hlen, hb, List.length_map, rs_linear_repeated, Bool.not_eq_true', Bool.not_eq_false', go_sem, eq_self, Nat.reduceEqDiff, Nat.reduceBEq, Nat.reduceAdd, Nat.reduceLeDiff, reduceIte, reduceCtorEq, tysA, tyA, Ty.enc, Ty.encs]))
      | (refine xo_gs rfl (fun h => ?_) (fun h => ?_) <;> first | (cases h; done) | simp -implicitDefEqProofs only [hlen, hb, List.length_map, rs_linear_repeated, Bool.not_eq_true', Bool.not_eq_false', go_sem, eq_self, Nat.reduceEqDiff, Nat.reduceBEq, Nat.reduceAdd, Nat.reduceLeDiff, reduceIte, reduceCtorEq, tysA, tyA, Ty.enc, Ty.encs])
      | (refine ⟨fun h => ?_, fun h => ?_⟩ <;> first | (cases h; done) | (simp -implicitDefEqProofs only [h]; done) | (try simp -implicitDefEqProofs only [h]))
      | fail))
end Go.Ab
