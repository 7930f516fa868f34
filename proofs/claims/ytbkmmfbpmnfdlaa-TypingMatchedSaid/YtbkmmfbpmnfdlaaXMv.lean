/- The law TypingMatched returns true. Conditions: none. -/
import Derived.Test.YtbkmmfbpmnfdlaaXMu
set_option linter.unusedSimpArgs false
set_option linter.unusedVariables false
namespace Go.Ab
open Go.Proofs

/-- y knows all that x knows. -/
structure MS.le (x y : MS) : Prop where
  at_ : ∀ i, x.found.getD i false = true → y.found.getD i false = true ∧ y.types.getD i (.mk 0 0 []) = x.types.getD i (.mk 0 0 [])
  count : x.count ≤ y.count
theorem MS.le_refl (x : MS) : x.le x := ⟨fun _ h => ⟨h, rfl⟩, Int.le_refl _⟩
theorem MS.le_trans {x y z : MS} (h : x.le y) (k : y.le z) : x.le z :=
  ⟨fun i hi => ⟨(k.at_ i (h.at_ i hi).1).1, ((k.at_ i (h.at_ i hi).1).2).trans (h.at_ i hi).2⟩, Int.le_trans h.count k.count⟩

/-- What is found lies below the count. -/
def MS.cov (x : MS) : Prop := ∀ i, x.found.getD i false = true → (i : Int) < x.count

theorem getD_set {α : Type} (l : List α) (i j : Nat) (a d : α) : (l.set i a).getD j d = if i = j ∧ i < l.length then a else l.getD j d := by
  simp only [List.getD_eq_getElem?_getD, List.getElem?_set]
  by_cases h : i = j
  · subst h
    by_cases h2 : i < l.length
    · simp [h2]
    · simp [h2]
  · simp [h]

mutual
theorem mt_le (B : Nat) : ∀ (t : Ty) (x : MS) (u : Ty), x.ok B → u.size ≤ B → x.cov → x.le (t.mt x u).2 ∧ (t.mt x u).2.cov
  | .mk k n l, x, u, hx, hu, hc => by
    simp only [Ty.mt]
    split
    · split
      · exact ⟨MS.le_refl x, hc⟩
      · rename_i hn
        split
        · exact ⟨MS.le_refl x, hc⟩
        · rename_i hf
          have hn0 : (n.toNat : Int) = n := Int.toNat_of_nonneg (by omega)
          have h1 : n.toNat < x.found.length := by rw [hx.found]; omega
          have h2 : n.toNat < x.types.length := by rw [hx.types]; omega
          refine ⟨⟨fun i hi => ?_, ?_⟩, fun i hi => ?_⟩
          · simp only [getD_set]
            by_cases e : n.toNat = i
            · subst e; rw [hi] at hf; exact absurd rfl hf
            · rw [if_neg (fun h => e h.1), if_neg (fun h => e h.1)]; exact ⟨hi, rfl⟩
          · simp only; split <;> omega
          · simp only [getD_set] at hi
            by_cases e : n.toNat = i
            · subst e; simp only; split <;> omega
            · rw [if_neg (fun h => e h.1)] at hi
              have := hc i hi
              simp only; split <;> omega
    · split
      · split
        · exact ⟨MS.le_refl x, hc⟩
        · obtain ⟨k', n', l'⟩ := u
          exact mts_le B l x l' hx (fun u hu' => by have := mem_sz hu'; simp only [Ty.size] at hu; omega) hc
      · exact ⟨MS.le_refl x, hc⟩
theorem mts_le (B : Nat) : ∀ (l : List Ty) (x : MS) (m : List Ty), x.ok B → (∀ u ∈ m, u.size ≤ B) → x.cov → x.le (Ty.mts l x m).2 ∧ (Ty.mts l x m).2.cov
  | t :: l, x, u :: m, hx, hm, hc => by
    simp only [Ty.mts]
    obtain ⟨h1, h2⟩ := mt_le B t x u hx (hm u (by simp)) hc
    have h3 := mt_ok B t x u hx (hm u (by simp))
    split
    · obtain ⟨h4, h5⟩ := mts_le B l _ m h3 (fun u hu => hm u (by simp [hu])) h2
      exact ⟨MS.le_trans h1 h4, h5⟩
    · exact ⟨h1, h2⟩
  | [], x, m, hx, _, hc => by simpa [Ty.mts] using ⟨MS.le_refl x, hc⟩
  | t :: l, x, [], hx, _, hc => by simpa [Ty.mts] using ⟨MS.le_refl x, hc⟩
end

theorem out_get (y : MS) (i : Nat) (hi : (i : Int) < y.count) : y.out.getD i (.mk 0 0 []) = y.at i := by
  have : i < y.count.toNat := by omega
  simp [MS.out, this]
theorem out_len (y : MS) (h : 0 ≤ y.count) : (y.out.length : Int) = y.count := by simp [MS.out]; omega

mutual
/-- What a match has found makes one type out of the other. -/
theorem mt_subst (B : Nat) : ∀ (t : Ty) (x : MS) (u : Ty) (y : MS), x.ok B → u.size ≤ B → x.cov → (t.mt x u).1 = true → (t.mt x u).2.le y → y.cov → 0 ≤ y.count → t.subst y.out = u
  | .mk k n l, x, u, y, hx, hu, hc, ht, hle, hyc, hy0 => by
    simp only [Ty.mt] at ht hle
    split at ht
    · rename_i hk
      rw [if_pos hk] at hle
      split at ht
      · cases ht
      · rename_i hn
        rw [if_neg hn] at hle
        have hn0 : (n.toNat : Int) = n := Int.toNat_of_nonneg (by omega)
        have key : y.found.getD n.toNat false = true ∧ y.types.getD n.toNat (.mk 0 0 []) = u := by
          split at ht
          · rename_i hf
            rw [if_pos hf] at hle
            have := hle.at_ _ hf
            exact ⟨this.1, this.2.trans (same_eq _ _ ht)⟩
          · rename_i hf
            rw [if_neg hf] at hle
            have h1 : n.toNat < x.found.length := by rw [hx.found]; omega
            have h2 : n.toNat < x.types.length := by rw [hx.types]; omega
            have := hle.at_ n.toNat (by simp only [getD_set]; simp [h1])
            simp only [getD_set] at this
            exact ⟨this.1, by rw [this.2]; simp [h2]⟩
        have hlt := hyc _ key.1
        have hol := out_len y hy0
        simp only [Ty.subst]
        rw [if_pos ⟨hk, by omega, by omega⟩, out_get y _ hlt]
        unfold MS.at
        rw [key.1, key.2]; rfl
    · rename_i hk
      rw [if_neg hk] at hle
      split at ht
      · rename_i hkn
        rw [if_pos hkn] at hle
        split at ht
        · cases ht
        · rename_i hl
          rw [if_neg hl] at hle
          obtain ⟨k', n', l'⟩ := u
          simp only [Ty.kind, Ty.num, Ty.args] at hkn hle ht hl
          obtain ⟨rfl, rfl⟩ := hkn
          have := mts_subst B l x l' y hx (fun u hu' => by have := mem_sz hu'; simp only [Ty.size] at hu; omega) hc (by omega) ht hle hyc hy0
          simp only [Ty.subst]
          rw [if_neg (fun h => hk h.1), this]
      · cases ht
theorem mts_subst (B : Nat) : ∀ (l : List Ty) (x : MS) (m : List Ty) (y : MS), x.ok B → (∀ u ∈ m, u.size ≤ B) → x.cov → l.length = m.length → (Ty.mts l x m).1 = true → (Ty.mts l x m).2.le y → y.cov → 0 ≤ y.count → Ty.substs y.out l = m
  | t :: l, x, u :: m, y, hx, hm, hc, hl, ht, hle, hyc, hy0 => by
    simp only [Ty.mts] at ht hle
    obtain ⟨h1, h2⟩ := mt_le B t x u hx (hm u (by simp)) hc
    have h3 := mt_ok B t x u hx (hm u (by simp))
    split at ht
    · rename_i hf
      rw [if_pos hf] at hle
      obtain ⟨h4, h5⟩ := mts_le B l _ m h3 (fun u hu => hm u (by simp [hu])) h2
      simp only [Ty.substs]
      rw [mt_subst B t x u y hx (hm u (by simp)) hc hf (MS.le_trans h4 hle) hyc hy0, mts_subst B l _ m y h3 (fun u hu => hm u (by simp [hu])) h2 (by simpa using hl) ht hle hyc hy0]
    · cases ht
  | [], x, [], y, _, _, _, _, _, _, _, _ => rfl
  | [], x, _ :: _, y, _, _, _, hl, _, _, _, _ => by simp at hl
  | t :: l, x, [], y, _, _, _, hl, _, _, _, _ => by simp at hl
end

/-- All that has been found are these types. -/
def MS.from (args : List Ty) (x : MS) : Prop := ∀ i, x.found.getD i false = true → x.types.getD i (.mk 0 0 []) = args.getD i (.mk 0 0 [])

def MS.ln (x : MS) : Prop := x.found.length = 101 ∧ x.types.length = 101
mutual
theorem mt_ln : ∀ (t : Ty) (x : MS) (u : Ty), x.ln → (t.mt x u).2.ln
  | .mk k n l, x, u, hx => by
    simp only [Ty.mt]
    split
    · split
      · exact hx
      · split
        · exact hx
        · exact ⟨by simp [hx.1], by simp [hx.2]⟩
    · split
      · split
        · exact hx
        · exact mts_ln l x u.args hx
      · exact hx
theorem mts_ln : ∀ (l : List Ty) (x : MS) (m : List Ty), x.ln → (Ty.mts l x m).2.ln
  | t :: l, x, u :: m, hx => by
    simp only [Ty.mts]
    have h1 := mt_ln t x u hx
    split
    · exact mts_ln l _ m h1
    · exact h1
  | [], x, m, hx => by simpa [Ty.mts] using hx
  | t :: l, x, [], hx => by simpa [Ty.mts] using hx
end

mutual
theorem mt_inst (args : List Ty) (ha : args.length ≤ 101) : ∀ (t : Ty) (x : MS), x.ln → x.from args → t.vars args.length = true → (t.mt x (t.subst args)).1 = true ∧ (t.mt x (t.subst args)).2.from args
  | .mk k n l, x, hx, hf, hv => by
    simp only [Ty.vars] at hv
    split at hv
    · rename_i hk
      simp only [Bool.and_eq_true, decide_eq_true_eq] at hv
      obtain ⟨⟨h0, h1⟩, h2⟩ := hv
      have hn0 : (n.toNat : Int) = n := Int.toNat_of_nonneg h0
      have hs : (Ty.mk k n l).subst args = args.getD n.toNat (.mk 0 0 []) := by simp only [Ty.subst]; rw [if_pos ⟨hk, h0, h1⟩]
      rw [hs]
      simp only [Ty.mt, if_pos hk, if_neg (show ¬ (n < 0 ∨ 100 < n) by omega)]
      split
      · rename_i hfd
        refine ⟨?_, hf⟩
        simp only
        rw [hf _ hfd]; exact same_refl _
      · rename_i hfd
        have h3 : n.toNat < x.found.length := by rw [hx.1]; omega
        have h4 : n.toNat < x.types.length := by rw [hx.2]; omega
        refine ⟨rfl, fun i hi => ?_⟩
        simp only [getD_set] at hi ⊢
        by_cases e : n.toNat = i
        · subst e; simp [h4]
        · rw [if_neg (fun h => e h.1)] at hi ⊢
          exact hf i hi
    · rename_i hk
      have hs : (Ty.mk k n l).subst args = .mk k n (Ty.substs args l) := by simp only [Ty.subst]; rw [if_neg (fun h => hk h.1)]
      rw [hs]
      simp only [Ty.mt, if_neg hk, Ty.kind, Ty.num, Ty.args, and_self, if_true, substs_length, ne_eq, not_true_eq_false, if_false]
      exact mts_inst args ha l x hx hf hv
theorem mts_inst (args : List Ty) (ha : args.length ≤ 101) : ∀ (l : List Ty) (x : MS), x.ln → x.from args → Ty.varss args.length l = true → (Ty.mts l x (Ty.substs args l)).1 = true ∧ (Ty.mts l x (Ty.substs args l)).2.from args
  | [], x, _, hf, _ => by simpa [Ty.mts, Ty.substs] using hf
  | t :: l, x, hx, hf, hv => by
    simp only [Ty.varss, Bool.and_eq_true] at hv
    obtain ⟨h1, h2⟩ := mt_inst args ha t x hx hf hv.1
    obtain ⟨h3, h4⟩ := mts_inst args ha l _ (mt_ln t x (t.subst args) hx) h2 hv.2
    simp only [Ty.mts, Ty.substs, h1, if_true]
    exact ⟨h3, h4⟩
end

theorem ms0_found (i : Nat) : ms0.found.getD i false = false := by
  simp only [ms0, List.getD_eq_getElem?_getD, List.getElem?_replicate]
  split <;> rfl

theorem matchOf_subst {t u : Ty} {l : List Ty} (h : matchOf t u = some l) : t.subst l = u := by
  unfold matchOf at h
  split at h
  · rename_i hm
    cases h
    have h0 := ms0_ok (u.size + 1) (by omega)
    have hc : ms0.cov := fun i hi => by rw [ms0_found] at hi; cases hi
    have h1 := mt_le (u.size + 1) t ms0 u h0 (by omega) hc
    have h2 := mt_ok (u.size + 1) t ms0 u h0 (by omega)
    exact mt_subst (u.size + 1) t ms0 u _ h0 (by omega) hc hm (MS.le_refl _) h1.2 h2.count.1
  · cases h
theorem matchOf_inst {t : Ty} {args : List Ty} (ha : args.length ≤ 101) (hv : t.vars args.length = true) : ∃ l, matchOf t (t.subst args) = some l := by
  have := mt_inst args ha t ms0 ⟨by simp [ms0], by simp [ms0]⟩ (fun i hi => by rw [ms0_found] at hi; cases hi) hv
  exact ⟨_, by unfold matchOf; rw [if_pos this.1]⟩
theorem matchOf_small {t u : Ty} {l : List Ty} {B : Nat} (hB : 1 ≤ B) (hu : u.size ≤ B) (h : matchOf t u = some l) : ∀ x ∈ l, x.size ≤ B := by
  unfold matchOf at h
  split at h
  · cases h
    have h2 := mt_ok B t ms0 u (ms0_ok B hB) hu
    intro x hx
    simp only [MS.out, List.mem_map] at hx
    obtain ⟨i, _, rfl⟩ := hx
    unfold MS.at
    split
    · rename_i hf
      simp only [List.getD_eq_getElem?_getD]
      cases hg : (t.mt ms0 u).2.types[i]? with
      | none => simpa [Ty.size, Ty.sizes] using hB
      | some y => exact h2.small y (List.mem_of_getElem? hg)
    · simpa [Ty.size, Ty.sizes] using hB
  · cases h

theorem typing_Ground_int (σ : Heap) : ACalls Try.prog 16 [tyA (.mk 1 0 [])] σ (fun v σ' => v = .d (.bool true) ∧ σ' = σ) := by
  refine i_typing_Ground (by simp) ?_
  rw [argF_1]
  (repeat (first
      | refine Run.seq ?_
      | refine Run.skip ?_
      | refine Run.block ?_
      | refine Run.blk ?_
      | (refine Run.exit rfl ?_)
      | (refine Run.reg mixed ?_; simp -implicitDefEqProofs only [go_sem, eq_self, Nat.reduceEqDiff, Nat.reduceBEq, Nat.reduceAdd, Nat.reduceLeDiff, reduceIte, reduceCtorEq, tysA, tyA, Ty.enc, Ty.encs])
      | (refine Run.condM ?_; simp -implicitDefEqProofs only [go_sem, eq_self, Nat.reduceEqDiff, Nat.reduceBEq, Nat.reduceAdd, Nat.reduceLeDiff, reduceIte, reduceCtorEq, tysA, tyA, Ty.enc, Ty.encs])))
  refine XCall.mk rfl (ContainsFunc_ok (fid := 23) (first := []) (caps := []) (by kernel_rfl) rfl (fun _ => true) σ [] (by simp) (fun t h => by cases h)) ?_
  rintro v σ' ⟨rfl, rfl⟩
  simp -implicitDefEqProofs only [show ((1 : Int) != 4) = true from rfl, go_sem, eq_self, Nat.reduceEqDiff, Nat.reduceBEq, Nat.reduceAdd, Nat.reduceLeDiff, reduceIte, reduceCtorEq, tysA, tyA, Ty.enc, Ty.encs]
  (repeat (first
      | refine Run.seq ?_
      | refine Run.skip ?_
      | refine Run.block ?_
      | refine Run.blk ?_
      | (refine Run.exit rfl ?_)
      | (refine Run.reg mixed ?_; simp -implicitDefEqProofs only [go_sem, eq_self, Nat.reduceEqDiff, Nat.reduceBEq, Nat.reduceAdd, Nat.reduceLeDiff, reduceIte, reduceCtorEq, tysA, tyA, Ty.enc, Ty.encs])
      | (refine Run.condM ?_; simp -implicitDefEqProofs only [go_sem, eq_self, Nat.reduceEqDiff, Nat.reduceBEq, Nat.reduceAdd, Nat.reduceLeDiff, reduceIte, reduceCtorEq, tysA, tyA, Ty.enc, Ty.encs])))
  refine Run.retP g_typing_Ground (Heap.le_refl _) ?_
  simp -implicitDefEqProofs only [rs_typing_Ground, show ((1 : Int) != 4) = true from rfl, go_sem, eq_self, Nat.reduceEqDiff, Nat.reduceBEq, Nat.reduceAdd, Nat.reduceLeDiff, reduceIte, reduceCtorEq, tysA, tyA, Ty.enc, Ty.encs]
  rfl

theorem TypingMatched_ok (t u : Ty) (args : List Ty) (σ : Heap) :
    ACalls Try.prog 4 [tyA t, tyA u, tysA args] σ (fun v σ' => v = .d (.bool true) ∧ σ' = σ) := by
  obtain ⟨kd, nm, l⟩ := t
  obtain ⟨kd', nm', l'⟩ := u
  refine i_law06_TypingMatched (by simp) ?_
  rw [argF_3]
  (repeat (first
      | refine Run.seq ?_
      | refine Run.skip ?_
      | refine Run.block ?_
      | refine Run.blk ?_
      | (refine Run.exit rfl ?_)))
  (refine Run.reg mixed ?_; simp -implicitDefEqProofs only [go_sem, eq_self, Nat.reduceEqDiff, Nat.reduceBEq, Nat.reduceAdd, Nat.reduceLeDiff, reduceIte, reduceCtorEq, tysA, tyA, Ty.enc, Ty.encs])
  (repeat (first
      | refine Run.seq ?_
      | refine Run.skip ?_
      | refine Run.block ?_
      | refine Run.blk ?_
      | (refine Run.exit rfl ?_)))
  have hG : ((40 : Int) < ((Ty.mk kd nm l).size : Int)) ↔ ¬ (Ty.mk kd nm l).size ≤ 40 := by omega
  refine Run.regCut mixed (put 2 (tysA args) (put 3 (.lp 3 0) (put 4 (.lp 4 0) (put 28 (.d (.bool (!(decide ((Ty.mk kd nm l).size ≤ 250)) || !(decide ((Ty.mk kd' nm' l').size ≤ 250)) || !(decide (args.length ≤ 4) && args.all fun t => decide (t.size ≤ 250)) || !(decide ((Ty.mk kd nm l).size ≤ 40))))) U))))
    (putL 3 [.d (.int .i64 kd), .d (.int .i64 nm), tysA l] (putL 4 [.d (.int .i64 kd'), .d (.int .i64 nm'), tysA l'] E)) σ ?_ ?_
  · simp -implicitDefEqProofs only [go_sem, eq_self, Nat.reduceEqDiff, Nat.reduceBEq, Nat.reduceAdd, Nat.reduceLeDiff, reduceIte, reduceCtorEq, tysA, tyA, Ty.enc, Ty.encs]
    refine XCall.mk rfl (keep_Type_ok (.mk kd nm l) _) ?_
    rintro v σ' ⟨rfl, rfl⟩
    cases h1 : decide ((Ty.mk kd nm l).size ≤ 250)
    · simp -implicitDefEqProofs only [h1, go_sem, eq_self, Nat.reduceEqDiff, Nat.reduceBEq, Nat.reduceAdd, Nat.reduceLeDiff, reduceIte, reduceCtorEq, tysA, tyA, Ty.enc, Ty.encs]
    · simp -implicitDefEqProofs only [h1, go_sem, eq_self, Nat.reduceEqDiff, Nat.reduceBEq, Nat.reduceAdd, Nat.reduceLeDiff, reduceIte, reduceCtorEq, tysA, tyA, Ty.enc, Ty.encs]
      refine XCall.mk rfl (keep_Type_ok (.mk kd' nm' l') _) ?_
      rintro v σ' ⟨rfl, rfl⟩
      cases h2 : decide ((Ty.mk kd' nm' l').size ≤ 250)
      · simp -implicitDefEqProofs only [h1, h2, go_sem, eq_self, Nat.reduceEqDiff, Nat.reduceBEq, Nat.reduceAdd, Nat.reduceLeDiff, reduceIte, reduceCtorEq, tysA, tyA, Ty.enc, Ty.encs]
      · simp -implicitDefEqProofs only [h1, h2, go_sem, eq_self, Nat.reduceEqDiff, Nat.reduceBEq, Nat.reduceAdd, Nat.reduceLeDiff, reduceIte, reduceCtorEq, tysA, tyA, Ty.enc, Ty.encs]
        refine XCall.mk rfl (keep_Types_ok args _) ?_
        rintro v σ' ⟨rfl, rfl⟩
        cases h3 : (decide (args.length ≤ 4) && args.all fun t => decide (t.size ≤ 250))
        · simp -implicitDefEqProofs only [h1, h2, h3, go_sem, eq_self, Nat.reduceEqDiff, Nat.reduceBEq, Nat.reduceAdd, Nat.reduceLeDiff, reduceIte, reduceCtorEq, tysA, tyA, Ty.enc, Ty.encs]
        · simp -implicitDefEqProofs only [h1, h2, h3, go_sem, eq_self, Nat.reduceEqDiff, Nat.reduceBEq, Nat.reduceAdd, Nat.reduceLeDiff, reduceIte, reduceCtorEq, tysA, tyA, Ty.enc, Ty.encs]
          refine XCall.mk rfl (r6_Size_ok 1000000 (.mk kd nm l) _ (by simp at h1; omega) (by omega)) ?_
          rintro v σ' ⟨rfl, rfl⟩
          have e : decide ((40 : Int) < ((Ty.mk kd nm l).size : Int)) = !(decide ((Ty.mk kd nm l).size ≤ 40)) := by
            by_cases h : (Ty.mk kd nm l).size ≤ 40
            · have h' : ¬ ((40 : Int) < ((Ty.mk kd nm l).size : Int)) := by omega
              simp [h, h']
            · have h' : ((40 : Int) < ((Ty.mk kd nm l).size : Int)) := by omega
              simp [h, h']
          simp -implicitDefEqProofs only [h1, h2, h3, e, go_sem, eq_self, Nat.reduceEqDiff, Nat.reduceBEq, Nat.reduceAdd, Nat.reduceLeDiff, reduceIte, reduceCtorEq, tysA, tyA, Ty.enc, Ty.encs]
  · (repeat (first
      | refine Run.seq ?_
      | refine Run.skip ?_
      | refine Run.block ?_
      | refine Run.blk ?_
      | (refine Run.exit rfl ?_)
      | (refine Run.reg mixed ?_; simp -implicitDefEqProofs only [go_sem, eq_self, Nat.reduceEqDiff, Nat.reduceBEq, Nat.reduceAdd, Nat.reduceLeDiff, reduceIte, reduceCtorEq, tysA, tyA, Ty.enc, Ty.encs])
      | (refine Run.condM ?_; simp -implicitDefEqProofs only [go_sem, eq_self, Nat.reduceEqDiff, Nat.reduceBEq, Nat.reduceAdd, Nat.reduceLeDiff, reduceIte, reduceCtorEq, tysA, tyA, Ty.enc, Ty.encs])))
    refine ⟨fun h => ?_, fun h => ?_⟩
    · (repeat (first
      | refine Run.seq ?_
      | refine Run.skip ?_
      | refine Run.block ?_
      | refine Run.blk ?_
      | (refine Run.exit rfl ?_)
      | (refine Run.reg mixed ?_; simp -implicitDefEqProofs only [go_sem, eq_self, Nat.reduceEqDiff, Nat.reduceBEq, Nat.reduceAdd, Nat.reduceLeDiff, reduceIte, reduceCtorEq, tysA, tyA, Ty.enc, Ty.encs])
      | (refine Run.condM ?_; simp -implicitDefEqProofs only [go_sem, eq_self, Nat.reduceEqDiff, Nat.reduceBEq, Nat.reduceAdd, Nat.reduceLeDiff, reduceIte, reduceCtorEq, tysA, tyA, Ty.enc, Ty.encs])))
      refine Run.retP g_law06_TypingMatched (Heap.le_refl _) ?_
      simp -implicitDefEqProofs only [rs_law06_TypingMatched, go_sem, eq_self, Nat.reduceEqDiff, Nat.reduceBEq, Nat.reduceAdd, Nat.reduceLeDiff, reduceIte, reduceCtorEq, tysA, tyA, Ty.enc, Ty.encs]
    · simp only [Bool.or_eq_false_iff, Bool.not_eq_false', decide_eq_true_eq, Bool.and_eq_true, List.all_eq_true] at h
      obtain ⟨⟨⟨_, hu⟩, ha, hs⟩, ht⟩ := h
      have hsub : ((Ty.mk kd nm l).subst args).size ≤ 10000 := by
        have := subst_size args 250 (by omega) hs (.mk kd nm l)
        have h2 := Nat.mul_le_mul_right 250 ht
        omega
      (repeat (first
      | refine Run.seq ?_
      | refine Run.skip ?_
      | refine Run.block ?_
      | refine Run.blk ?_
      | (refine Run.exit rfl ?_)))
      (refine Run.reg mixed ?_; simp -implicitDefEqProofs only [go_sem, eq_self, Nat.reduceEqDiff, Nat.reduceBEq, Nat.reduceAdd, Nat.reduceLeDiff, reduceIte, reduceCtorEq, tysA, tyA, Ty.enc, Ty.encs])
      refine XCall.mk rfl (typing_Match_ok (.mk kd nm l) (.mk kd' nm' l') 250 (by omega) (by omega) (by omega) hu σ) ?_
      rintro v σ' ⟨rfl, rfl⟩
      simp -implicitDefEqProofs only [matchA, go_sem, eq_self, Nat.reduceEqDiff, Nat.reduceBEq, Nat.reduceAdd, Nat.reduceLeDiff, reduceIte, reduceCtorEq, tysA, tyA, Ty.enc, Ty.encs]
      (repeat (first
      | refine Run.seq ?_
      | refine Run.skip ?_
      | refine Run.block ?_
      | refine Run.blk ?_
      | (refine Run.exit rfl ?_)))
      refine Run.regCut mixed (put 2 (tysA args) (put 3 (.lp 3 0) (put 43 (.d (.bool false)) U))) (putL 3 [.d (.int .i64 kd), .d (.int .i64 nm), tysA l] E) σ' ?_ ?_
      · cases hm : matchOf (.mk kd nm l) (.mk kd' nm' l') with
        | none =>
          simp -implicitDefEqProofs only [Option.isSome_none, go_sem, eq_self, Nat.reduceEqDiff, Nat.reduceBEq, Nat.reduceAdd, Nat.reduceLeDiff, reduceIte, reduceCtorEq, tysA, tyA, Ty.enc, Ty.encs]
        | some m =>
          have hsm := matchOf_small (by omega) hu hm
          have hse := matchOf_subst hm
          simp -implicitDefEqProofs only [Option.isSome_some, Option.getD_some, go_sem, eq_self, Nat.reduceEqDiff, Nat.reduceBEq, Nat.reduceAdd, Nat.reduceLeDiff, reduceIte, reduceCtorEq, tysA, tyA, Ty.enc, Ty.encs]
          refine XPCall.mk rfl (typing_Subst_ok m (fun t h => by have := hsm t h; omega) 1000000 (.mk kd nm l) _ (by omega) (by omega)) ?_
          rw [hse]
          simp -implicitDefEqProofs only [go_sem, eq_self, Nat.reduceEqDiff, Nat.reduceBEq, Nat.reduceAdd, Nat.reduceLeDiff, reduceIte, reduceCtorEq, tysA, tyA, Ty.enc, Ty.encs]
          refine XPCall.mk rfl ((same_both 1000000 (by omega)).1 (.mk kd' nm' l') (.mk kd' nm' l') _ (by omega)) ?_
          rw [same_refl]
          simp -implicitDefEqProofs only [go_sem, eq_self, Nat.reduceEqDiff, Nat.reduceBEq, Nat.reduceAdd, Nat.reduceLeDiff, reduceIte, reduceCtorEq, tysA, tyA, Ty.enc, Ty.encs]
      · (repeat (first
      | refine Run.seq ?_
      | refine Run.skip ?_
      | refine Run.block ?_
      | refine Run.blk ?_
      | (refine Run.exit rfl ?_)
      | (refine Run.reg mixed ?_; simp -implicitDefEqProofs only [go_sem, eq_self, Nat.reduceEqDiff, Nat.reduceBEq, Nat.reduceAdd, Nat.reduceLeDiff, reduceIte, reduceCtorEq, tysA, tyA, Ty.enc, Ty.encs])
      | (refine Run.condM ?_; simp -implicitDefEqProofs only [go_sem, eq_self, Nat.reduceEqDiff, Nat.reduceBEq, Nat.reduceAdd, Nat.reduceLeDiff, reduceIte, reduceCtorEq, tysA, tyA, Ty.enc, Ty.encs])))
        rw [encs_len]
        refine XCall.mk rfl (law06_vars_ok args.length 1000000 (.mk kd nm l) _ (by omega) (by omega)) ?_
        rintro v σ'' ⟨rfl, rfl⟩
        simp -implicitDefEqProofs only [go_sem, eq_self, Nat.reduceEqDiff, Nat.reduceBEq, Nat.reduceAdd, Nat.reduceLeDiff, reduceIte, reduceCtorEq, tysA, tyA, Ty.enc, Ty.encs]
        (repeat (first
      | refine Run.seq ?_
      | refine Run.skip ?_
      | refine Run.block ?_
      | refine Run.blk ?_
      | (refine Run.exit rfl ?_)
      | (refine Run.reg mixed ?_; simp -implicitDefEqProofs only [go_sem, eq_self, Nat.reduceEqDiff, Nat.reduceBEq, Nat.reduceAdd, Nat.reduceLeDiff, reduceIte, reduceCtorEq, tysA, tyA, Ty.enc, Ty.encs])
      | (refine Run.condM ?_; simp -implicitDefEqProofs only [go_sem, eq_self, Nat.reduceEqDiff, Nat.reduceBEq, Nat.reduceAdd, Nat.reduceLeDiff, reduceIte, reduceCtorEq, tysA, tyA, Ty.enc, Ty.encs])))
        refine ⟨fun h => ?_, fun h => ?_⟩
        · obtain ⟨m, hm⟩ := matchOf_inst (by omega) h
          (repeat (first
      | refine Run.seq ?_
      | refine Run.skip ?_
      | refine Run.block ?_
      | refine Run.blk ?_
      | (refine Run.exit rfl ?_)
      | (refine Run.reg mixed ?_; simp -implicitDefEqProofs only [go_sem, eq_self, Nat.reduceEqDiff, Nat.reduceBEq, Nat.reduceAdd, Nat.reduceLeDiff, reduceIte, reduceCtorEq, tysA, tyA, Ty.enc, Ty.encs])
      | (refine Run.condM ?_; simp -implicitDefEqProofs only [go_sem, eq_self, Nat.reduceEqDiff, Nat.reduceBEq, Nat.reduceAdd, Nat.reduceLeDiff, reduceIte, reduceCtorEq, tysA, tyA, Ty.enc, Ty.encs])))
          refine XPCall.mk rfl (typing_Subst_ok args (fun t h => by have := hs t h; omega) 1000000 (.mk kd nm l) _ (by omega) (by omega)) ?_
          simp -implicitDefEqProofs only [go_sem, eq_self, Nat.reduceEqDiff, Nat.reduceBEq, Nat.reduceAdd, Nat.reduceLeDiff, reduceIte, reduceCtorEq, tysA, tyA, Ty.enc, Ty.encs]
          generalize hsu : (Ty.mk kd nm l).subst args = su at *
          obtain ⟨k2, n2, a2⟩ := su
          refine XPCall.mk rfl (typing_Match_ok (.mk kd nm l) (.mk k2 n2 a2) 10000 (by omega) (by omega) (by omega) (by omega) _) ?_
          rw [hm]
          simp -implicitDefEqProofs only [matchA, Option.isSome_some, go_sem, eq_self, Nat.reduceEqDiff, Nat.reduceBEq, Nat.reduceAdd, Nat.reduceLeDiff, reduceIte, reduceCtorEq, tysA, tyA, Ty.enc, Ty.encs]
          (repeat (first
      | refine Run.seq ?_
      | refine Run.skip ?_
      | refine Run.block ?_
      | refine Run.blk ?_
      | (refine Run.exit rfl ?_)
      | (refine Run.reg mixed ?_; simp -implicitDefEqProofs only [go_sem, eq_self, Nat.reduceEqDiff, Nat.reduceBEq, Nat.reduceAdd, Nat.reduceLeDiff, reduceIte, reduceCtorEq, tysA, tyA, Ty.enc, Ty.encs])
      | (refine Run.condM ?_; simp -implicitDefEqProofs only [go_sem, eq_self, Nat.reduceEqDiff, Nat.reduceBEq, Nat.reduceAdd, Nat.reduceLeDiff, reduceIte, reduceCtorEq, tysA, tyA, Ty.enc, Ty.encs])))
          refine XCall.mk rfl (ACalls.plain (typing_Ground_int _)) ?_
          rintro v σ2 ⟨rfl, rfl⟩
          simp -implicitDefEqProofs only [go_sem, eq_self, Nat.reduceEqDiff, Nat.reduceBEq, Nat.reduceAdd, Nat.reduceLeDiff, reduceIte, reduceCtorEq, tysA, tyA, Ty.enc, Ty.encs]
          (repeat (first
      | refine Run.seq ?_
      | refine Run.skip ?_
      | refine Run.block ?_
      | refine Run.blk ?_
      | (refine Run.exit rfl ?_)
      | (refine Run.reg mixed ?_; simp -implicitDefEqProofs only [go_sem, eq_self, Nat.reduceEqDiff, Nat.reduceBEq, Nat.reduceAdd, Nat.reduceLeDiff, reduceIte, reduceCtorEq, tysA, tyA, Ty.enc, Ty.encs])
      | (refine Run.condM ?_; simp -implicitDefEqProofs only [go_sem, eq_self, Nat.reduceEqDiff, Nat.reduceBEq, Nat.reduceAdd, Nat.reduceLeDiff, reduceIte, reduceCtorEq, tysA, tyA, Ty.enc, Ty.encs])))
          refine Run.retP g_law06_TypingMatched (Heap.le_refl _) ?_
          simp -implicitDefEqProofs only [rs_law06_TypingMatched, go_sem, eq_self, Nat.reduceEqDiff, Nat.reduceBEq, Nat.reduceAdd, Nat.reduceLeDiff, reduceIte, reduceCtorEq, tysA, tyA, Ty.enc, Ty.encs]
        · (repeat (first
      | refine Run.seq ?_
      | refine Run.skip ?_
      | refine Run.block ?_
      | refine Run.blk ?_
      | (refine Run.exit rfl ?_)
      | (refine Run.reg mixed ?_; simp -implicitDefEqProofs only [go_sem, eq_self, Nat.reduceEqDiff, Nat.reduceBEq, Nat.reduceAdd, Nat.reduceLeDiff, reduceIte, reduceCtorEq, tysA, tyA, Ty.enc, Ty.encs])
      | (refine Run.condM ?_; simp -implicitDefEqProofs only [go_sem, eq_self, Nat.reduceEqDiff, Nat.reduceBEq, Nat.reduceAdd, Nat.reduceLeDiff, reduceIte, reduceCtorEq, tysA, tyA, Ty.enc, Ty.encs])))
          refine XCall.mk rfl (ACalls.plain (typing_Ground_int _)) ?_
          rintro v σ2 ⟨rfl, rfl⟩
          simp -implicitDefEqProofs only [go_sem, eq_self, Nat.reduceEqDiff, Nat.reduceBEq, Nat.reduceAdd, Nat.reduceLeDiff, reduceIte, reduceCtorEq, tysA, tyA, Ty.enc, Ty.encs]
          (repeat (first
      | refine Run.seq ?_
      | refine Run.skip ?_
      | refine Run.block ?_
      | refine Run.blk ?_
      | (refine Run.exit rfl ?_)
      | (refine Run.reg mixed ?_; simp -implicitDefEqProofs only [go_sem, eq_self, Nat.reduceEqDiff, Nat.reduceBEq, Nat.reduceAdd, Nat.reduceLeDiff, reduceIte, reduceCtorEq, tysA, tyA, Ty.enc, Ty.encs])
      | (refine Run.condM ?_; simp -implicitDefEqProofs only [go_sem, eq_self, Nat.reduceEqDiff, Nat.reduceBEq, Nat.reduceAdd, Nat.reduceLeDiff, reduceIte, reduceCtorEq, tysA, tyA, Ty.enc, Ty.encs])))
          refine Run.retP g_law06_TypingMatched (Heap.le_refl _) ?_
          simp -implicitDefEqProofs only [rs_law06_TypingMatched, go_sem, eq_self, Nat.reduceEqDiff, Nat.reduceBEq, Nat.reduceAdd, Nat.reduceLeDiff, reduceIte, reduceCtorEq, tysA, tyA, Ty.enc, Ty.encs]
end Go.Ab
