/- SameType and SameTypes report equality; the reference's Size; Type and Types. Conditions: the types are small. -/
import Derived.Test.YtbkmmfbpmnfdlaaXKt
set_option linter.unusedSimpArgs false
set_option linter.unusedVariables false
namespace Go.Ab
open Go.Proofs

mutual
def Ty.same : Ty → Ty → Bool
  | .mk k n l, .mk k' n' l' => k == k' && n == n' && Ty.sames l l'
def Ty.sames : List Ty → List Ty → Bool
  | [], [] => true
  | t :: l, t' :: l' => Ty.same t t' && Ty.sames l l'
  | _, _ => false
end

mutual
theorem same_refl : ∀ t : Ty, t.same t = true
  | .mk k n l => by simp [Ty.same, sames_refl l]
theorem sames_refl : ∀ l : List Ty, Ty.sames l l = true
  | [] => rfl
  | t :: l => by simp [Ty.sames, same_refl t, sames_refl l]
end
mutual
theorem same_eq : ∀ t u : Ty, t.same u = true → t = u
  | .mk k n l, .mk k' n' l', h => by
    simp only [Ty.same, Bool.and_eq_true, beq_iff_eq] at h
    rw [h.1.1, h.1.2, sames_eq l l' h.2]
theorem sames_eq : ∀ l m : List Ty, Ty.sames l m = true → l = m
  | [], [], _ => rfl
  | t :: l, t' :: l', h => by
    simp only [Ty.sames, Bool.and_eq_true] at h
    rw [same_eq t t' h.1, sames_eq l l' h.2]
  | [], _ :: _, h => by cases h
  | _ :: _, [], h => by cases h
end

theorem sames_len : ∀ l m : List Ty, l.length ≠ m.length → Ty.sames l m = false
  | [], [], h => by simp at h
  | t :: l, t' :: l', h => by simp only [Ty.sames]; rw [sames_len l l' (by simpa using h)]; simp
  | [], _ :: _, h => rfl
  | _ :: _, [], h => rfl

theorem sames_drop : ∀ (l m : List Ty) (i : Nat) (t u : Ty), l[i]? = some t → m[i]? = some u → Ty.sames (l.drop i) (m.drop i) = (t.same u && Ty.sames (l.drop (i + 1)) (m.drop (i + 1)))
  | t0 :: l, u0 :: m, 0, t, u, ht, hu => by simp at ht hu; subst ht hu; simp [Ty.sames]
  | t0 :: l, u0 :: m, i + 1, t, u, ht, hu => by simpa using sames_drop l m i t u (by simpa using ht) (by simpa using hu)
  | [], _, i, t, u, ht, _ => by simp at ht
  | _ :: _, [], i, t, u, _, hu => by simp at hu

def SameTyOk (n : Nat) : Prop := ∀ (t u : Ty) (σ : Heap), t.size ≤ n → ACalls Try.prog 13 [tyA t, tyA u] σ (fun v σ' => v = .d (.bool (t.same u)) ∧ σ' = σ)
def SameTysOk (n : Nat) : Prop := ∀ (l m : List Ty) (σ : Heap), Ty.sizes l ≤ n → ACalls Try.prog 9 [tysA l, tysA m] σ (fun v σ' => v = .d (.bool (Ty.sames l m)) ∧ σ' = σ)

theorem keep_SameTypes_loop (n : Nat) (ih : SameTyOk n) (l m : List Ty) (hl : Ty.sizes l ≤ n) (hn : n ≤ 1000000) (hlm : l.length = m.length) (σ : Heap) {k : List CI}
    (hk : ∀ F L, Ty.sames l m = true → Run x_keep_SameTypes (fun v σ' => v = .d (.bool (Ty.sames l m)) ∧ σ' = σ) k F L σ) :
    ∀ (q i : Nat), q + i = l.length → Ty.sames l m = Ty.sames (l.drop i) (m.drop i) → Run x_keep_SameTypes (fun v σ' => v = .d (.bool (Ty.sames l m)) ∧ σ' = σ) (.again c_keep_SameTypes_L0 :: .blk 0 :: k)
      (put 0 (tysA l) (put 1 (tysA m) (put 12 (.d (.int .i64 l.length)) (put 13 (.d (.int .i64 i)) U)))) E σ := by
  intro q
  have hll := len_sizes l
  induction q with
  | zero =>
    intro i hi hs
    refine Run.again ?_
    (repeat (first
      | refine Run.seq ?_
      | refine Run.skip ?_
      | refine Run.block ?_
      | refine Run.blk ?_
      | (refine Run.exit rfl ?_)
      | (refine Run.reg mixed ?_; simp -implicitDefEqProofs only [go_sem, eq_self, Nat.reduceEqDiff, Nat.reduceBEq, Nat.reduceAdd, Nat.reduceLeDiff, reduceIte, reduceCtorEq, tysA, tyA, Ty.enc, Ty.encs])
      | (refine Run.condM ?_; simp -implicitDefEqProofs only [go_sem, eq_self, Nat.reduceEqDiff, Nat.reduceBEq, Nat.reduceAdd, Nat.reduceLeDiff, reduceIte, reduceCtorEq, tysA, tyA, Ty.enc, Ty.encs])))
    refine ⟨fun h => ?_, fun h => ?_⟩
    · simp at h; omega
    · (repeat (first
      | refine Run.seq ?_
      | refine Run.skip ?_
      | refine Run.block ?_
      | refine Run.blk ?_
      | (refine Run.exit rfl ?_)
      | (refine Run.reg mixed ?_; simp -implicitDefEqProofs only [go_sem, eq_self, Nat.reduceEqDiff, Nat.reduceBEq, Nat.reduceAdd, Nat.reduceLeDiff, reduceIte, reduceCtorEq, tysA, tyA, Ty.enc, Ty.encs])
      | (refine Run.condM ?_; simp -implicitDefEqProofs only [go_sem, eq_self, Nat.reduceEqDiff, Nat.reduceBEq, Nat.reduceAdd, Nat.reduceLeDiff, reduceIte, reduceCtorEq, tysA, tyA, Ty.enc, Ty.encs])))
      refine hk _ _ ?_
      rw [hs, List.drop_of_length_le (by omega), List.drop_of_length_le (by omega)]; rfl
  | succ q ihq =>
    intro i hi hs
    obtain ⟨t, ht⟩ : ∃ t, l[i]? = some t := ⟨l[i]'(by omega), by simp⟩
    obtain ⟨u, hu⟩ : ∃ u, m[i]? = some u := ⟨m[i]'(by omega), by simp⟩
    have hsz := sizes_get ht
    have hd := sames_drop l m i t u ht hu
    rw [hd] at hs
    obtain ⟨k1, n1, a1⟩ := t
    obtain ⟨k2, n2, a2⟩ := u
    have he := encs_at ht
    have he2 := encs_at hu
    refine Run.again ?_
    (repeat (first
      | refine Run.seq ?_
      | refine Run.skip ?_
      | refine Run.block ?_
      | refine Run.blk ?_
      | (refine Run.exit rfl ?_)
      | (refine Run.reg mixed ?_; simp -implicitDefEqProofs only [go_sem, eq_self, Nat.reduceEqDiff, Nat.reduceBEq, Nat.reduceAdd, Nat.reduceLeDiff, reduceIte, reduceCtorEq, tysA, tyA, Ty.enc, Ty.encs])
      | (refine Run.condM ?_; simp -implicitDefEqProofs only [go_sem, eq_self, Nat.reduceEqDiff, Nat.reduceBEq, Nat.reduceAdd, Nat.reduceLeDiff, reduceIte, reduceCtorEq, tysA, tyA, Ty.enc, Ty.encs])))
    refine ⟨fun h => ?_, fun h => ?_⟩
    · (repeat (first
      | refine Run.seq ?_
      | refine Run.skip ?_
      | refine Run.block ?_
      | refine Run.blk ?_
      | (refine Run.exit rfl ?_)
      | (refine Run.reg mixed ?_; simp -implicitDefEqProofs only [go_sem, eq_self, Nat.reduceEqDiff, Nat.reduceBEq, Nat.reduceAdd, Nat.reduceLeDiff, reduceIte, reduceCtorEq, tysA, tyA, Ty.enc, Ty.encs])
      | (refine Run.condM ?_; simp -implicitDefEqProofs only [go_sem, eq_self, Nat.reduceEqDiff, Nat.reduceBEq, Nat.reduceAdd, Nat.reduceLeDiff, reduceIte, reduceCtorEq, tysA, tyA, Ty.enc, Ty.encs])))
      simp -implicitDefEqProofs only [he, he2, go_sem, eq_self, Nat.reduceEqDiff, Nat.reduceBEq, Nat.reduceAdd, Nat.reduceLeDiff, reduceIte, reduceCtorEq, tysA, tyA, Ty.enc, Ty.encs]
      refine XPCall.mk rfl (ih (.mk k1 n1 a1) (.mk k2 n2 a2) _ (by omega)) ?_
      simp -implicitDefEqProofs only [go_sem, eq_self, Nat.reduceEqDiff, Nat.reduceBEq, Nat.reduceAdd, Nat.reduceLeDiff, reduceIte, reduceCtorEq, tysA, tyA, Ty.enc, Ty.encs]
      (repeat (first
      | refine Run.seq ?_
      | refine Run.skip ?_
      | refine Run.block ?_
      | refine Run.blk ?_
      | (refine Run.exit rfl ?_)
      | (refine Run.reg mixed ?_; simp -implicitDefEqProofs only [go_sem, eq_self, Nat.reduceEqDiff, Nat.reduceBEq, Nat.reduceAdd, Nat.reduceLeDiff, reduceIte, reduceCtorEq, tysA, tyA, Ty.enc, Ty.encs])
      | (refine Run.condM ?_; simp -implicitDefEqProofs only [go_sem, eq_self, Nat.reduceEqDiff, Nat.reduceBEq, Nat.reduceAdd, Nat.reduceLeDiff, reduceIte, reduceCtorEq, tysA, tyA, Ty.enc, Ty.encs])))
      refine ⟨fun h => ?_, fun h => ?_⟩
      · (repeat (first
      | refine Run.seq ?_
      | refine Run.skip ?_
      | refine Run.block ?_
      | refine Run.blk ?_
      | (refine Run.exit rfl ?_)
      | (refine Run.reg mixed ?_; simp -implicitDefEqProofs only [go_sem, eq_self, Nat.reduceEqDiff, Nat.reduceBEq, Nat.reduceAdd, Nat.reduceLeDiff, reduceIte, reduceCtorEq, tysA, tyA, Ty.enc, Ty.encs])
      | (refine Run.condM ?_; simp -implicitDefEqProofs only [go_sem, eq_self, Nat.reduceEqDiff, Nat.reduceBEq, Nat.reduceAdd, Nat.reduceLeDiff, reduceIte, reduceCtorEq, tysA, tyA, Ty.enc, Ty.encs])))
        refine Run.retP g_keep_SameTypes (Heap.le_refl _) ?_
        simp only [Bool.not_eq_true'] at h
        simp -implicitDefEqProofs only [rs_keep_SameTypes, hs, h, go_sem, eq_self, Nat.reduceEqDiff, Nat.reduceBEq, Nat.reduceAdd, Nat.reduceLeDiff, reduceIte, reduceCtorEq, tysA, tyA, Ty.enc, Ty.encs]
      · simp only [Bool.not_eq_false'] at h
        (repeat (first
      | refine Run.seq ?_
      | refine Run.skip ?_
      | refine Run.block ?_
      | refine Run.blk ?_
      | (refine Run.exit rfl ?_)
      | (refine Run.reg mixed ?_; simp -implicitDefEqProofs only [go_sem, eq_self, Nat.reduceEqDiff, Nat.reduceBEq, Nat.reduceAdd, Nat.reduceLeDiff, reduceIte, reduceCtorEq, tysA, tyA, Ty.enc, Ty.encs])
      | (refine Run.condM ?_; simp -implicitDefEqProofs only [go_sem, eq_self, Nat.reduceEqDiff, Nat.reduceBEq, Nat.reduceAdd, Nat.reduceLeDiff, reduceIte, reduceCtorEq, tysA, tyA, Ty.enc, Ty.encs])))
        rw [wrap_succ (by omega)]
        exact ihq (i + 1) (by omega) (by rw [hs, h]; simp)
    · simp at h; omega

theorem sameTys_of (n : Nat) (hn : n ≤ 1000000) (ih : SameTyOk n) : SameTysOk n := by
  intro l m σ hl
  refine i_keep_SameTypes (by simp) ?_
  rw [argF_2]
  (repeat (first
      | refine Run.seq ?_
      | refine Run.skip ?_
      | refine Run.block ?_
      | refine Run.blk ?_
      | (refine Run.exit rfl ?_)
      | (refine Run.reg mixed ?_; simp -implicitDefEqProofs only [go_sem, eq_self, Nat.reduceEqDiff, Nat.reduceBEq, Nat.reduceAdd, Nat.reduceLeDiff, reduceIte, reduceCtorEq, tysA, tyA, Ty.enc, Ty.encs])
      | (refine Run.condM ?_; simp -implicitDefEqProofs only [go_sem, eq_self, Nat.reduceEqDiff, Nat.reduceBEq, Nat.reduceAdd, Nat.reduceLeDiff, reduceIte, reduceCtorEq, tysA, tyA, Ty.enc, Ty.encs])))
  refine ⟨fun h => ?_, fun h => ?_⟩
  · (repeat (first
      | refine Run.seq ?_
      | refine Run.skip ?_
      | refine Run.block ?_
      | refine Run.blk ?_
      | (refine Run.exit rfl ?_)
      | (refine Run.reg mixed ?_; simp -implicitDefEqProofs only [go_sem, eq_self, Nat.reduceEqDiff, Nat.reduceBEq, Nat.reduceAdd, Nat.reduceLeDiff, reduceIte, reduceCtorEq, tysA, tyA, Ty.enc, Ty.encs])
      | (refine Run.condM ?_; simp -implicitDefEqProofs only [go_sem, eq_self, Nat.reduceEqDiff, Nat.reduceBEq, Nat.reduceAdd, Nat.reduceLeDiff, reduceIte, reduceCtorEq, tysA, tyA, Ty.enc, Ty.encs])))
    refine Run.retP g_keep_SameTypes (Heap.le_refl _) ?_
    have : l.length ≠ m.length := by simp [encs_len] at h; omega
    simp -implicitDefEqProofs only [rs_keep_SameTypes, sames_len l m this, go_sem, eq_self, Nat.reduceEqDiff, Nat.reduceBEq, Nat.reduceAdd, Nat.reduceLeDiff, reduceIte, reduceCtorEq, tysA, tyA, Ty.enc, Ty.encs]
  · have hlm : l.length = m.length := by simp [encs_len] at h; omega
    (repeat (first
      | refine Run.seq ?_
      | refine Run.skip ?_
      | refine Run.block ?_
      | refine Run.blk ?_
      | (refine Run.exit rfl ?_)
      | (refine Run.reg mixed ?_; simp -implicitDefEqProofs only [go_sem, eq_self, Nat.reduceEqDiff, Nat.reduceBEq, Nat.reduceAdd, Nat.reduceLeDiff, reduceIte, reduceCtorEq, tysA, tyA, Ty.enc, Ty.encs])
      | (refine Run.condM ?_; simp -implicitDefEqProofs only [go_sem, eq_self, Nat.reduceEqDiff, Nat.reduceBEq, Nat.reduceAdd, Nat.reduceLeDiff, reduceIte, reduceCtorEq, tysA, tyA, Ty.enc, Ty.encs])))
    refine Run.loopA ?_
    rw [encs_len]
    refine keep_SameTypes_loop n ih l m hl hn hlm σ (fun F L hs => ?_) l.length 0 (by omega) rfl
    (repeat (first
      | refine Run.seq ?_
      | refine Run.skip ?_
      | refine Run.block ?_
      | refine Run.blk ?_
      | (refine Run.exit rfl ?_)
      | (refine Run.reg mixed ?_; simp -implicitDefEqProofs only [go_sem, eq_self, Nat.reduceEqDiff, Nat.reduceBEq, Nat.reduceAdd, Nat.reduceLeDiff, reduceIte, reduceCtorEq, tysA, tyA, Ty.enc, Ty.encs])
      | (refine Run.condM ?_; simp -implicitDefEqProofs only [go_sem, eq_self, Nat.reduceEqDiff, Nat.reduceBEq, Nat.reduceAdd, Nat.reduceLeDiff, reduceIte, reduceCtorEq, tysA, tyA, Ty.enc, Ty.encs])))
    refine Run.retP g_keep_SameTypes (Heap.le_refl _) ?_
    simp -implicitDefEqProofs only [rs_keep_SameTypes, hs, go_sem, eq_self, Nat.reduceEqDiff, Nat.reduceBEq, Nat.reduceAdd, Nat.reduceLeDiff, reduceIte, reduceCtorEq, tysA, tyA, Ty.enc, Ty.encs]

theorem sameTy_of (n : Nat) (ih : SameTysOk n) : SameTyOk (n + 1) := by
  intro t u σ ht
  obtain ⟨k1, n1, l1⟩ := t
  obtain ⟨k2, n2, l2⟩ := u
  have hl : Ty.sizes l1 ≤ n := by simp only [Ty.size] at ht; omega
  refine i_keep_SameType (by simp) ?_
  rw [argF_2]
  cases h1 : (k1 == k2)
  · (repeat (first
      | refine Run.seq ?_
      | refine Run.skip ?_
      | refine Run.block ?_
      | refine Run.blk ?_
      | (refine Run.exit rfl ?_)
      | (refine Run.reg mixed ?_; simp -implicitDefEqProofs only [h1, go_sem, eq_self, Nat.reduceEqDiff, Nat.reduceBEq, Nat.reduceAdd, Nat.reduceLeDiff, reduceIte, reduceCtorEq, tysA, tyA, Ty.enc, Ty.encs])
      | (refine Run.condM ?_; simp -implicitDefEqProofs only [h1, go_sem, eq_self, Nat.reduceEqDiff, Nat.reduceBEq, Nat.reduceAdd, Nat.reduceLeDiff, reduceIte, reduceCtorEq, tysA, tyA, Ty.enc, Ty.encs])))
    refine Run.retP g_keep_SameType (Heap.le_refl _) ?_
    simp -implicitDefEqProofs only [rs_keep_SameType, Ty.same, h1, go_sem, eq_self, Nat.reduceEqDiff, Nat.reduceBEq, Nat.reduceAdd, Nat.reduceLeDiff, reduceIte, reduceCtorEq, tysA, tyA, Ty.enc, Ty.encs]
  · cases h2 : (n1 == n2)
    · (repeat (first
      | refine Run.seq ?_
      | refine Run.skip ?_
      | refine Run.block ?_
      | refine Run.blk ?_
      | (refine Run.exit rfl ?_)
      | (refine Run.reg mixed ?_; simp -implicitDefEqProofs only [h1, h2, go_sem, eq_self, Nat.reduceEqDiff, Nat.reduceBEq, Nat.reduceAdd, Nat.reduceLeDiff, reduceIte, reduceCtorEq, tysA, tyA, Ty.enc, Ty.encs])
      | (refine Run.condM ?_; simp -implicitDefEqProofs only [h1, h2, go_sem, eq_self, Nat.reduceEqDiff, Nat.reduceBEq, Nat.reduceAdd, Nat.reduceLeDiff, reduceIte, reduceCtorEq, tysA, tyA, Ty.enc, Ty.encs])))
      refine Run.retP g_keep_SameType (Heap.le_refl _) ?_
      simp -implicitDefEqProofs only [rs_keep_SameType, Ty.same, h1, h2, go_sem, eq_self, Nat.reduceEqDiff, Nat.reduceBEq, Nat.reduceAdd, Nat.reduceLeDiff, reduceIte, reduceCtorEq, tysA, tyA, Ty.enc, Ty.encs]
    · (repeat (first
      | refine Run.seq ?_
      | refine Run.skip ?_
      | refine Run.block ?_
      | refine Run.blk ?_
      | (refine Run.exit rfl ?_)
      | (refine Run.reg mixed ?_; simp -implicitDefEqProofs only [h1, h2, go_sem, eq_self, Nat.reduceEqDiff, Nat.reduceBEq, Nat.reduceAdd, Nat.reduceLeDiff, reduceIte, reduceCtorEq, tysA, tyA, Ty.enc, Ty.encs])
      | (refine Run.condM ?_; simp -implicitDefEqProofs only [h1, h2, go_sem, eq_self, Nat.reduceEqDiff, Nat.reduceBEq, Nat.reduceAdd, Nat.reduceLeDiff, reduceIte, reduceCtorEq, tysA, tyA, Ty.enc, Ty.encs])))
      refine XCall.mk rfl (ih l1 l2 _ hl) ?_
      rintro v σ' ⟨rfl, rfl⟩
      simp -implicitDefEqProofs only [go_sem, eq_self, Nat.reduceEqDiff, Nat.reduceBEq, Nat.reduceAdd, Nat.reduceLeDiff, reduceIte, reduceCtorEq, tysA, tyA, Ty.enc, Ty.encs]
      (repeat (first
      | refine Run.seq ?_
      | refine Run.skip ?_
      | refine Run.block ?_
      | refine Run.blk ?_
      | (refine Run.exit rfl ?_)
      | (refine Run.reg mixed ?_; simp -implicitDefEqProofs only [go_sem, eq_self, Nat.reduceEqDiff, Nat.reduceBEq, Nat.reduceAdd, Nat.reduceLeDiff, reduceIte, reduceCtorEq, tysA, tyA, Ty.enc, Ty.encs])
      | (refine Run.condM ?_; simp -implicitDefEqProofs only [go_sem, eq_self, Nat.reduceEqDiff, Nat.reduceBEq, Nat.reduceAdd, Nat.reduceLeDiff, reduceIte, reduceCtorEq, tysA, tyA, Ty.enc, Ty.encs])))
      refine Run.retP g_keep_SameType (Heap.le_refl _) ?_
      simp -implicitDefEqProofs only [rs_keep_SameType, Ty.same, h1, h2, go_sem, eq_self, Nat.reduceEqDiff, Nat.reduceBEq, Nat.reduceAdd, Nat.reduceLeDiff, reduceIte, reduceCtorEq, tysA, tyA, Ty.enc, Ty.encs]

theorem same_both (n : Nat) : n ≤ 1000000 → SameTyOk n ∧ SameTysOk n := by
  induction n with
  | zero =>
    intro h
    have h0 : SameTyOk 0 := fun t u σ h => by have := size_pos t; omega
    exact ⟨h0, sameTys_of 0 h h0⟩
  | succ n ih =>
    intro h
    have h1 := sameTy_of n (ih (by omega)).2
    exact ⟨h1, sameTys_of (n + 1) h h1⟩
end Go.Ab
