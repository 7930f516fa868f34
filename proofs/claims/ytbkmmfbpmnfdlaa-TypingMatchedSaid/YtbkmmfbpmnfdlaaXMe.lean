/- Equal, EqualFunc, Ground, ContainsFunc and IndexFunc over types; Types; vars. Conditions: the types are small. -/
import Derived.Test.YtbkmmfbpmnfdlaaXSs
set_option linter.unusedSimpArgs false
set_option linter.unusedVariables false
namespace Go.Ab
open Go.Proofs

def alls {α : Type} (st : α → Ty → Ty → Bool × α) : α → List Ty → List Ty → Bool × α
  | x, t :: l, u :: m => if (st x t u).1 then alls st (st x t u).2 l m else (false, (st x t u).2)
  | x, _, _ => (true, x)
def eqf {α : Type} (st : α → Ty → Ty → Bool × α) (x : α) (l m : List Ty) : Bool × α := if l.length ≠ m.length then (false, x) else alls st x l m

theorem alls_drop {α : Type} (st : α → Ty → Ty → Bool × α) (x : α) (l m : List Ty) (i : Nat) (t u : Ty) (ht : l[i]? = some t) (hu : m[i]? = some u) :
    alls st x (l.drop i) (m.drop i) = if (st x t u).1 then alls st (st x t u).2 (l.drop (i + 1)) (m.drop (i + 1)) else (false, (st x t u).2) := by
  have h1 : l.drop i = t :: l.drop (i + 1) := by
    have hlt := (List.getElem?_eq_some_iff.1 ht).1
    rw [List.drop_eq_getElem_cons hlt]; congr 1; exact (List.getElem?_eq_some_iff.1 ht).2
  have h2 : m.drop i = u :: m.drop (i + 1) := by
    have hlt := (List.getElem?_eq_some_iff.1 hu).1
    rw [List.drop_eq_getElem_cons hlt]; congr 1; exact (List.getElem?_eq_some_iff.1 hu).2
  rw [h1, h2]; rfl

theorem EqualFunc_ok {α : Type} {fid : FuncId} {first caps : List AV} (hb : hasBody Try.prog fid = true) (hn : (first ++ caps).all AV.noLp = true) (st : α → Ty → Ty → Bool × α) (hp : α → Heap) (inv : α → Prop) (l m : List Ty) (hll : l.length ≤ 1000000)
    (hstep : ∀ x t u, inv x → t ∈ l → u ∈ m → inv (st x t u).2 ∧ ACalls Try.prog fid (first ++ [tyA t, tyA u] ++ caps) (hp x) (fun v σ' => v = .d (.bool (st x t u).1) ∧ σ' = hp (st x t u).2)) (x : α) (hx : inv x) :
    ACalls Try.prog 26 [tysA l, tysA m, .fn fid first caps] (hp x) (fun v σ' => v = .d (.bool (eqf st x l m).1) ∧ σ' = hp (eqf st x l m).2) := by
  refine i_slices_EqualFunc_api_Type (by simp) ?_
  rw [argF_3]
  (repeat (first
      | refine Run.seq ?_
      | refine Run.skip ?_
      | refine Run.block ?_
      | refine Run.blk ?_
      | (refine Run.exit rfl ?_)
      | (refine Run.reg mixed ?_; simp -implicitDefEqProofs only [go_sem, eq_self, Nat.reduceEqDiff, Nat.reduceBEq, Nat.reduceAdd, Nat.reduceLeDiff, reduceIte, reduceCtorEq, tysA, tyA, Ty.enc, Ty.encs])
      | (refine Run.condM ?_; simp -implicitDefEqProofs only [go_sem, eq_self, Nat.reduceEqDiff, Nat.reduceBEq, Nat.reduceAdd, Nat.reduceLeDiff, reduceIte, reduceCtorEq, tysA, tyA, Ty.enc, Ty.encs])))
  refine ⟨fun h => ?_, fun h => ?_⟩
  · (repeat (first
      | refine Run.seq ?_
      | refine Run.skip ?_
      | refine Run.block ?_
      | refine Run.blk ?_
      | (refine Run.exit rfl ?_)
      | (refine Run.reg mixed ?_; simp -implicitDefEqProofs only [go_sem, eq_self, Nat.reduceEqDiff, Nat.reduceBEq, Nat.reduceAdd, Nat.reduceLeDiff, reduceIte, reduceCtorEq, tysA, tyA, Ty.enc, Ty.encs])
      | (refine Run.condM ?_; simp -implicitDefEqProofs only [go_sem, eq_self, Nat.reduceEqDiff, Nat.reduceBEq, Nat.reduceAdd, Nat.reduceLeDiff, reduceIte, reduceCtorEq, tysA, tyA, Ty.enc, Ty.encs])))
    refine Run.retP g_slices_EqualFunc_api_Type (Heap.le_refl _) ?_
    simp -implicitDefEqProofs only [rs_slices_EqualFunc_api_Type, go_sem, eq_self, Nat.reduceEqDiff, Nat.reduceBEq, Nat.reduceAdd, Nat.reduceLeDiff, reduceIte, reduceCtorEq, tysA, tyA, Ty.enc, Ty.encs]
    have : l.length ≠ m.length := by intro e; simp [encs_len, e] at h
    simp [eqf, this]
  · have hlm : l.length = m.length := by simp [encs_len] at h; omega
    have he : eqf st x l m = alls st x l m := by simp [eqf, hlm]
    rw [he]
    (repeat (first
      | refine Run.seq ?_
      | refine Run.skip ?_
      | refine Run.block ?_
      | refine Run.blk ?_
      | (refine Run.exit rfl ?_)
      | (refine Run.reg mixed ?_; simp -implicitDefEqProofs only [go_sem, eq_self, Nat.reduceEqDiff, Nat.reduceBEq, Nat.reduceAdd, Nat.reduceLeDiff, reduceIte, reduceCtorEq, tysA, tyA, Ty.enc, Ty.encs])
      | (refine Run.condM ?_; simp -implicitDefEqProofs only [go_sem, eq_self, Nat.reduceEqDiff, Nat.reduceBEq, Nat.reduceAdd, Nat.reduceLeDiff, reduceIte, reduceCtorEq, tysA, tyA, Ty.enc, Ty.encs])))
    refine Run.loopA ?_
    rw [encs_len]
    refine Run.loopI (fun y : Nat × α => put 1 (tysA m) (put 2 (.fn fid first caps) (put 15 (tysA l) (put 16 (.d (.int .i64 l.length)) (put 17 (.d (.int .i64 y.1)) U))))) (fun _ => E) (fun y => hp y.2)
      (fun y => inv y.2 ∧ y.1 ≤ l.length ∧ alls st x l m = alls st y.2 (l.drop y.1) (m.drop y.1)) (fun y => l.length - y.1) ?_ (0, x) ⟨hx, by omega, by simp⟩
    rintro ⟨i, y⟩ ⟨hi, hil, hs⟩ ih
    simp only at hi hil hs
    (repeat (first
      | refine Run.seq ?_
      | refine Run.skip ?_
      | refine Run.block ?_
      | refine Run.blk ?_
      | (refine Run.exit rfl ?_)
      | (refine Run.reg mixed ?_; simp -implicitDefEqProofs only [go_sem, eq_self, Nat.reduceEqDiff, Nat.reduceBEq, Nat.reduceAdd, Nat.reduceLeDiff, reduceIte, reduceCtorEq, tysA, tyA, Ty.enc, Ty.encs])
      | (refine Run.condM ?_; simp -implicitDefEqProofs only [go_sem, eq_self, Nat.reduceEqDiff, Nat.reduceBEq, Nat.reduceAdd, Nat.reduceLeDiff, reduceIte, reduceCtorEq, tysA, tyA, Ty.enc, Ty.encs])))
    refine ⟨fun h => ?_, fun h => ?_⟩
    · have hlt : i < l.length := by simp at h; omega
      obtain ⟨t, ht⟩ : ∃ t, l[i]? = some t := ⟨l[i], by simp [hlt]⟩
      obtain ⟨u, hu⟩ : ∃ u, m[i]? = some u := ⟨m[i]'(by omega), by simp⟩
      have hd := alls_drop st y l m i t u ht hu
      obtain ⟨hs1, hs2⟩ := hstep y t u hi (List.mem_of_getElem? ht) (List.mem_of_getElem? hu)
      obtain ⟨k1, n1, a1⟩ := t
      obtain ⟨k2, n2, a2⟩ := u
      have he1 := encs_at ht
      have he2 := encs_at hu
      (repeat (first
      | refine Run.seq ?_
      | refine Run.skip ?_
      | refine Run.block ?_
      | refine Run.blk ?_
      | (refine Run.exit rfl ?_)
      | (refine Run.reg mixed ?_; simp -implicitDefEqProofs only [go_sem, eq_self, Nat.reduceEqDiff, Nat.reduceBEq, Nat.reduceAdd, Nat.reduceLeDiff, reduceIte, reduceCtorEq, tysA, tyA, Ty.enc, Ty.encs])
      | (refine Run.condM ?_; simp -implicitDefEqProofs only [go_sem, eq_self, Nat.reduceEqDiff, Nat.reduceBEq, Nat.reduceAdd, Nat.reduceLeDiff, reduceIte, reduceCtorEq, tysA, tyA, Ty.enc, Ty.encs])))
      simp -implicitDefEqProofs only [he1, go_sem, eq_self, Nat.reduceEqDiff, Nat.reduceBEq, Nat.reduceAdd, Nat.reduceLeDiff, reduceIte, reduceCtorEq, tysA, tyA, Ty.enc, Ty.encs]
      (repeat (first
      | refine Run.seq ?_
      | refine Run.skip ?_
      | refine Run.block ?_
      | refine Run.blk ?_
      | (refine Run.exit rfl ?_)
      | (refine Run.reg mixed ?_; simp -implicitDefEqProofs only [go_sem, eq_self, Nat.reduceEqDiff, Nat.reduceBEq, Nat.reduceAdd, Nat.reduceLeDiff, reduceIte, reduceCtorEq, tysA, tyA, Ty.enc, Ty.encs])
      | (refine Run.condM ?_; simp -implicitDefEqProofs only [go_sem, eq_self, Nat.reduceEqDiff, Nat.reduceBEq, Nat.reduceAdd, Nat.reduceLeDiff, reduceIte, reduceCtorEq, tysA, tyA, Ty.enc, Ty.encs])))
      simp -implicitDefEqProofs only [he2, go_sem, eq_self, Nat.reduceEqDiff, Nat.reduceBEq, Nat.reduceAdd, Nat.reduceLeDiff, reduceIte, reduceCtorEq, tysA, tyA, Ty.enc, Ty.encs]
      (repeat (first
      | refine Run.seq ?_
      | refine Run.skip ?_
      | refine Run.block ?_
      | refine Run.blk ?_
      | (refine Run.exit rfl ?_)
      | (refine Run.reg mixed ?_; simp -implicitDefEqProofs only [go_sem, eq_self, Nat.reduceEqDiff, Nat.reduceBEq, Nat.reduceAdd, Nat.reduceLeDiff, reduceIte, reduceCtorEq, tysA, tyA, Ty.enc, Ty.encs])
      | (refine Run.condM ?_; simp -implicitDefEqProofs only [go_sem, eq_self, Nat.reduceEqDiff, Nat.reduceBEq, Nat.reduceAdd, Nat.reduceLeDiff, reduceIte, reduceCtorEq, tysA, tyA, Ty.enc, Ty.encs])))
      refine ⟨fid, first, caps, rfl, hb, XCall.mk ?_ hs2 ?_⟩
      · simp only [List.all_append, Bool.and_eq_true] at hn
        simp [hn.1, hn.2, AV.noLp]
      rintro v σ' ⟨rfl, rfl⟩
      simp -implicitDefEqProofs only [go_sem, eq_self, Nat.reduceEqDiff, Nat.reduceBEq, Nat.reduceAdd, Nat.reduceLeDiff, reduceIte, reduceCtorEq, tysA, tyA, Ty.enc, Ty.encs]
      (repeat (first
      | refine Run.seq ?_
      | refine Run.skip ?_
      | refine Run.block ?_
      | refine Run.blk ?_
      | (refine Run.exit rfl ?_)
      | (refine Run.reg mixed ?_; simp -implicitDefEqProofs only [go_sem, eq_self, Nat.reduceEqDiff, Nat.reduceBEq, Nat.reduceAdd, Nat.reduceLeDiff, reduceIte, reduceCtorEq, tysA, tyA, Ty.enc, Ty.encs])
      | (refine Run.condM ?_; simp -implicitDefEqProofs only [go_sem, eq_self, Nat.reduceEqDiff, Nat.reduceBEq, Nat.reduceAdd, Nat.reduceLeDiff, reduceIte, reduceCtorEq, tysA, tyA, Ty.enc, Ty.encs])))
      refine ⟨fun h => ?_, fun h => ?_⟩
      · simp only [Bool.not_eq_true'] at h
        (repeat (first
      | refine Run.seq ?_
      | refine Run.skip ?_
      | refine Run.block ?_
      | refine Run.blk ?_
      | (refine Run.exit rfl ?_)
      | (refine Run.reg mixed ?_; simp -implicitDefEqProofs only [go_sem, eq_self, Nat.reduceEqDiff, Nat.reduceBEq, Nat.reduceAdd, Nat.reduceLeDiff, reduceIte, reduceCtorEq, tysA, tyA, Ty.enc, Ty.encs])
      | (refine Run.condM ?_; simp -implicitDefEqProofs only [go_sem, eq_self, Nat.reduceEqDiff, Nat.reduceBEq, Nat.reduceAdd, Nat.reduceLeDiff, reduceIte, reduceCtorEq, tysA, tyA, Ty.enc, Ty.encs])))
        refine Run.retP g_slices_EqualFunc_api_Type (Heap.le_refl _) ?_
        simp -implicitDefEqProofs only [rs_slices_EqualFunc_api_Type, go_sem, eq_self, Nat.reduceEqDiff, Nat.reduceBEq, Nat.reduceAdd, Nat.reduceLeDiff, reduceIte, reduceCtorEq, tysA, tyA, Ty.enc, Ty.encs]
        rw [hs, hd, h]
        simp
      · simp only [Bool.not_eq_false'] at h
        (repeat (first
      | refine Run.seq ?_
      | refine Run.skip ?_
      | refine Run.block ?_
      | refine Run.blk ?_
      | (refine Run.exit rfl ?_)
      | (refine Run.reg mixed ?_; simp -implicitDefEqProofs only [go_sem, eq_self, Nat.reduceEqDiff, Nat.reduceBEq, Nat.reduceAdd, Nat.reduceLeDiff, reduceIte, reduceCtorEq, tysA, tyA, Ty.enc, Ty.encs])
      | (refine Run.condM ?_; simp -implicitDefEqProofs only [go_sem, eq_self, Nat.reduceEqDiff, Nat.reduceBEq, Nat.reduceAdd, Nat.reduceLeDiff, reduceIte, reduceCtorEq, tysA, tyA, Ty.enc, Ty.encs])))
        rw [wrap_succ (by omega)]
        exact ih (i + 1, _) ⟨hs1, by simp only; omega, by simp only; rw [hs, hd, h]; simp⟩ (by simp only; omega)
    · have hge : i = l.length := by simp at h; omega
      subst hge
      (repeat (first
      | refine Run.seq ?_
      | refine Run.skip ?_
      | refine Run.block ?_
      | refine Run.blk ?_
      | (refine Run.exit rfl ?_)
      | (refine Run.reg mixed ?_; simp -implicitDefEqProofs only [go_sem, eq_self, Nat.reduceEqDiff, Nat.reduceBEq, Nat.reduceAdd, Nat.reduceLeDiff, reduceIte, reduceCtorEq, tysA, tyA, Ty.enc, Ty.encs])
      | (refine Run.condM ?_; simp -implicitDefEqProofs only [go_sem, eq_self, Nat.reduceEqDiff, Nat.reduceBEq, Nat.reduceAdd, Nat.reduceLeDiff, reduceIte, reduceCtorEq, tysA, tyA, Ty.enc, Ty.encs])))
      refine Run.retP g_slices_EqualFunc_api_Type (Heap.le_refl _) ?_
      simp -implicitDefEqProofs only [rs_slices_EqualFunc_api_Type, go_sem, eq_self, Nat.reduceEqDiff, Nat.reduceBEq, Nat.reduceAdd, Nat.reduceLeDiff, reduceIte, reduceCtorEq, tysA, tyA, Ty.enc, Ty.encs]
      rw [hs]
      simp [alls]

theorem mem_sz {l : List Ty} {t : Ty} (h : t ∈ l) : t.size ≤ Ty.sizes l := by
  induction l with
  | nil => cases h
  | cons u l ih =>
    simp only [Ty.sizes]
    cases h with
    | head => omega
    | tail _ h => have := ih h; omega

theorem alls_same : ∀ (l m : List Ty), l.length = m.length → (alls (fun (_ : Unit) t u => (t.same u, ())) () l m).1 = Ty.sames l m
  | [], [], _ => rfl
  | t :: l, u :: m, h => by
    simp only [alls, Ty.sames]
    cases ht : t.same u
    · simp
    · simpa using alls_same l m (by simpa using h)
  | [], _ :: _, h => by simp at h
  | _ :: _, [], h => by simp at h

theorem typing_Equal_ok (n : Nat) : ∀ (t u : Ty) (σ : Heap), t.size ≤ n → n ≤ 1000000 → ACalls Try.prog 25 [tyA t, tyA u] σ (fun v σ' => v = .d (.bool (t.same u)) ∧ σ' = σ) := by
  induction n with
  | zero => intro t u σ h; have := size_pos t; omega
  | succ n ih =>
    intro t u σ ht hn
    obtain ⟨kd, nm, l⟩ := t
    obtain ⟨kd', nm', l'⟩ := u
    have hsl : Ty.sizes l ≤ n := by simp only [Ty.size] at ht; omega
    have hll := len_sizes l
    refine i_typing_Equal (by simp) ?_
    rw [argF_2]
    (repeat (first
      | refine Run.seq ?_
      | refine Run.skip ?_
      | refine Run.block ?_
      | refine Run.blk ?_
      | (refine Run.exit rfl ?_)))
    (refine Run.reg mixed ?_; simp -implicitDefEqProofs only [go_sem, eq_self, Nat.reduceEqDiff, Nat.reduceBEq, Nat.reduceAdd, Nat.reduceLeDiff, reduceIte, reduceCtorEq, tysA, tyA, Ty.enc, Ty.encs])
    (repeat (first
      | refine Run.seq ?_
      | refine Run.skip ?_
      | refine Run.block ?_
      | refine Run.blk ?_
      | (refine Run.exit rfl ?_)))
    refine Run.regCut mixed (put 4 (.d (.bool ((Ty.mk kd nm l).same (.mk kd' nm' l')))) U) E σ ?_ ?_
    · cases h1 : (kd == kd')
      · simp -implicitDefEqProofs only [h1, Ty.same, go_sem, eq_self, Nat.reduceEqDiff, Nat.reduceBEq, Nat.reduceAdd, Nat.reduceLeDiff, reduceIte, reduceCtorEq, tysA, tyA, Ty.enc, Ty.encs]
      · cases h2 : (nm == nm')
        · simp -implicitDefEqProofs only [h1, h2, Ty.same, go_sem, eq_self, Nat.reduceEqDiff, Nat.reduceBEq, Nat.reduceAdd, Nat.reduceLeDiff, reduceIte, reduceCtorEq, tysA, tyA, Ty.enc, Ty.encs]
        · simp -implicitDefEqProofs only [h1, h2, go_sem, eq_self, Nat.reduceEqDiff, Nat.reduceBEq, Nat.reduceAdd, Nat.reduceLeDiff, reduceIte, reduceCtorEq, tysA, tyA, Ty.enc, Ty.encs]
          refine XCall.mk rfl (EqualFunc_ok (α := Unit) (fid := 25) (first := []) (caps := []) (by kernel_rfl) rfl (fun _ t u => (t.same u, ())) (fun _ => σ) (fun _ => True) l l' (by omega) (fun _ t u _ h _ => ⟨trivial, ih t u σ (by have := mem_sz h; omega) (by omega)⟩) () trivial) ?_
          rintro v σ' ⟨rfl, rfl⟩
          simp -implicitDefEqProofs only [h1, h2, go_sem, eq_self, Nat.reduceEqDiff, Nat.reduceBEq, Nat.reduceAdd, Nat.reduceLeDiff, reduceIte, reduceCtorEq, tysA, tyA, Ty.enc, Ty.encs]
          have : (eqf (fun (_ : Unit) t u => (t.same u, ())) () l l').1 = Ty.sames l l' := by
            unfold eqf
            split
            · rename_i hne; rw [sames_len l l' hne]
            · rename_i hne; exact alls_same l l' (by omega)
          rw [this]
          simp [Ty.same, h1, h2]
    · (repeat (first
      | refine Run.seq ?_
      | refine Run.skip ?_
      | refine Run.block ?_
      | refine Run.blk ?_
      | (refine Run.exit rfl ?_)
      | (refine Run.reg mixed ?_; simp -implicitDefEqProofs only [go_sem, eq_self, Nat.reduceEqDiff, Nat.reduceBEq, Nat.reduceAdd, Nat.reduceLeDiff, reduceIte, reduceCtorEq, tysA, tyA, Ty.enc, Ty.encs])
      | (refine Run.condM ?_; simp -implicitDefEqProofs only [go_sem, eq_self, Nat.reduceEqDiff, Nat.reduceBEq, Nat.reduceAdd, Nat.reduceLeDiff, reduceIte, reduceCtorEq, tysA, tyA, Ty.enc, Ty.encs])))
      refine Run.retP g_typing_Equal (Heap.le_refl _) ?_
      simp -implicitDefEqProofs only [rs_typing_Equal, go_sem, eq_self, Nat.reduceEqDiff, Nat.reduceBEq, Nat.reduceAdd, Nat.reduceLeDiff, reduceIte, reduceCtorEq, tysA, tyA, Ty.enc, Ty.encs]

/-! ### keep.Types -/

theorem keep_Types_ok (l : List Ty) (σ : Heap) : ACalls Try.prog 10 [tysA l, .d (.int .i64 4)] σ (fun v σ' => v = .d (.bool (decide (l.length ≤ 4) && l.all fun t => decide (t.size ≤ 250))) ∧ σ' = σ) := by
  refine i_keep_Types (by simp) ?_
  rw [argF_2]
  (repeat (first
      | refine Run.seq ?_
      | refine Run.skip ?_
      | refine Run.block ?_
      | refine Run.blk ?_
      | (refine Run.exit rfl ?_)
      | (refine Run.reg mixed ?_; simp -implicitDefEqProofs only [go_sem, eq_self, Nat.reduceEqDiff, Nat.reduceBEq, Nat.reduceAdd, Nat.reduceLeDiff, reduceIte, reduceCtorEq, tysA, tyA, Ty.enc, Ty.encs])
      | (refine Run.condM ?_; simp -implicitDefEqProofs only [go_sem, eq_self, Nat.reduceEqDiff, Nat.reduceBEq, Nat.reduceAdd, Nat.reduceLeDiff, reduceIte, reduceCtorEq, tysA, tyA, Ty.enc, Ty.encs])))
  refine Run.loopA ?_
  refine Run.loopI (fun i : Nat => put 0 (tysA l) (put 1 (.d (.int .i64 4)) (put 5 (.d (.int .i64 i)) U))) (fun _ => E) (fun _ => σ)
    (fun i => i ≤ l.length ∧ i ≤ 5 ∧ (l.take i).all (fun t => decide (t.size ≤ 250)) = true) (fun i => l.length - i) ?_ 0 ⟨by omega, by omega, by simp⟩
  rintro i ⟨hil, hi5, ha⟩ ih
  (repeat (first
      | refine Run.seq ?_
      | refine Run.skip ?_
      | refine Run.block ?_
      | refine Run.blk ?_
      | (refine Run.exit rfl ?_)))
  refine Run.regCut mixed (put 0 (tysA l) (put 1 (.d (.int .i64 4)) (put 5 (.d (.int .i64 i)) (put 14 (.d (.bool (decide (i < l.length) && decide (i ≤ 4)))) U)))) E σ ?_ ?_
  · cases h1 : decide (i < l.length)
    · have e : decide ((i : Int) < (l.length : Int)) = false := by simpa using h1
      simp -implicitDefEqProofs only [encs_len, e, h1, go_sem, eq_self, Nat.reduceEqDiff, Nat.reduceBEq, Nat.reduceAdd, Nat.reduceLeDiff, reduceIte, reduceCtorEq, tysA, tyA, Ty.enc, Ty.encs]
    · have e : decide ((i : Int) < (l.length : Int)) = true := by simpa using h1
      have e2 : decide ((i : Int) ≤ 4) = decide (i ≤ 4) := by rw [decide_eq_decide]; omega
      simp -implicitDefEqProofs only [encs_len, e, e2, h1, go_sem, eq_self, Nat.reduceEqDiff, Nat.reduceBEq, Nat.reduceAdd, Nat.reduceLeDiff, reduceIte, reduceCtorEq, tysA, tyA, Ty.enc, Ty.encs]
  (repeat (first
      | refine Run.seq ?_
      | refine Run.skip ?_
      | refine Run.block ?_
      | refine Run.blk ?_
      | (refine Run.exit rfl ?_)
      | (refine Run.reg mixed ?_; simp -implicitDefEqProofs only [go_sem, eq_self, Nat.reduceEqDiff, Nat.reduceBEq, Nat.reduceAdd, Nat.reduceLeDiff, reduceIte, reduceCtorEq, tysA, tyA, Ty.enc, Ty.encs])
      | (refine Run.condM ?_; simp -implicitDefEqProofs only [go_sem, eq_self, Nat.reduceEqDiff, Nat.reduceBEq, Nat.reduceAdd, Nat.reduceLeDiff, reduceIte, reduceCtorEq, tysA, tyA, Ty.enc, Ty.encs])))
  refine ⟨fun h => ?_, fun h => ?_⟩
  · simp only [Bool.and_eq_true, decide_eq_true_eq] at h
    obtain ⟨t, ht⟩ : ∃ t, l[i]? = some t := ⟨l[i], by simp [h.1]⟩
    have hts := take_snoc ht
    have hmem := List.mem_of_getElem? ht
    have hk := keep_Type_ok t σ
    generalize hsz : decide (t.size ≤ 250) = b at hk
    have hb : (decide (l.length ≤ 4) && l.all (fun t => decide (t.size ≤ 250))) = true → b = true := by
      intro hh
      simp only [Bool.and_eq_true, List.all_eq_true] at hh
      rw [← hsz]; exact hh.2 t hmem
    obtain ⟨k1, n1, a1⟩ := t
    have he1 := encs_at ht
    (repeat (first
      | refine Run.seq ?_
      | refine Run.skip ?_
      | refine Run.block ?_
      | refine Run.blk ?_
      | (refine Run.exit rfl ?_)
      | (refine Run.reg mixed ?_; simp -implicitDefEqProofs only [go_sem, eq_self, Nat.reduceEqDiff, Nat.reduceBEq, Nat.reduceAdd, Nat.reduceLeDiff, reduceIte, reduceCtorEq, tysA, tyA, Ty.enc, Ty.encs])
      | (refine Run.condM ?_; simp -implicitDefEqProofs only [go_sem, eq_self, Nat.reduceEqDiff, Nat.reduceBEq, Nat.reduceAdd, Nat.reduceLeDiff, reduceIte, reduceCtorEq, tysA, tyA, Ty.enc, Ty.encs])))
    simp -implicitDefEqProofs only [he1, go_sem, eq_self, Nat.reduceEqDiff, Nat.reduceBEq, Nat.reduceAdd, Nat.reduceLeDiff, reduceIte, reduceCtorEq, tysA, tyA, Ty.enc, Ty.encs]
    refine XCall.mk rfl hk ?_
    rintro v σ' ⟨rfl, rfl⟩
    simp -implicitDefEqProofs only [go_sem, eq_self, Nat.reduceEqDiff, Nat.reduceBEq, Nat.reduceAdd, Nat.reduceLeDiff, reduceIte, reduceCtorEq, tysA, tyA, Ty.enc, Ty.encs]
    (repeat (first
      | refine Run.seq ?_
      | refine Run.skip ?_
      | refine Run.block ?_
      | refine Run.blk ?_
      | (refine Run.exit rfl ?_)
      | (refine Run.reg mixed ?_; simp -implicitDefEqProofs only [go_sem, eq_self, Nat.reduceEqDiff, Nat.reduceBEq, Nat.reduceAdd, Nat.reduceLeDiff, reduceIte, reduceCtorEq, tysA, tyA, Ty.enc, Ty.encs])
      | (refine Run.condM ?_; simp -implicitDefEqProofs only [go_sem, eq_self, Nat.reduceEqDiff, Nat.reduceBEq, Nat.reduceAdd, Nat.reduceLeDiff, reduceIte, reduceCtorEq, tysA, tyA, Ty.enc, Ty.encs])))
    refine ⟨fun h => ?_, fun h => ?_⟩
    · (repeat (first
      | refine Run.seq ?_
      | refine Run.skip ?_
      | refine Run.block ?_
      | refine Run.blk ?_
      | (refine Run.exit rfl ?_)
      | (refine Run.reg mixed ?_; simp -implicitDefEqProofs only [go_sem, eq_self, Nat.reduceEqDiff, Nat.reduceBEq, Nat.reduceAdd, Nat.reduceLeDiff, reduceIte, reduceCtorEq, tysA, tyA, Ty.enc, Ty.encs])
      | (refine Run.condM ?_; simp -implicitDefEqProofs only [go_sem, eq_self, Nat.reduceEqDiff, Nat.reduceBEq, Nat.reduceAdd, Nat.reduceLeDiff, reduceIte, reduceCtorEq, tysA, tyA, Ty.enc, Ty.encs])))
      refine Run.retP g_keep_Types (Heap.le_refl _) ?_
      simp -implicitDefEqProofs only [rs_keep_Types, go_sem, eq_self, Nat.reduceEqDiff, Nat.reduceBEq, Nat.reduceAdd, Nat.reduceLeDiff, reduceIte, reduceCtorEq, tysA, tyA, Ty.enc, Ty.encs]
      cases hx : (decide (l.length ≤ 4) && l.all fun t => decide (t.size ≤ 250))
      · rfl
      · rw [hb hx] at h; cases h
    · (repeat (first
      | refine Run.seq ?_
      | refine Run.skip ?_
      | refine Run.block ?_
      | refine Run.blk ?_
      | (refine Run.exit rfl ?_)
      | (refine Run.reg mixed ?_; simp -implicitDefEqProofs only [go_sem, eq_self, Nat.reduceEqDiff, Nat.reduceBEq, Nat.reduceAdd, Nat.reduceLeDiff, reduceIte, reduceCtorEq, tysA, tyA, Ty.enc, Ty.encs])
      | (refine Run.condM ?_; simp -implicitDefEqProofs only [go_sem, eq_self, Nat.reduceEqDiff, Nat.reduceBEq, Nat.reduceAdd, Nat.reduceLeDiff, reduceIte, reduceCtorEq, tysA, tyA, Ty.enc, Ty.encs])))
      rw [wrap_succ (by omega)]
      refine ih (i + 1) ⟨by omega, by omega, ?_⟩ (by omega)
      rw [hts, List.all_append, ha]
      simp only [List.all_cons, List.all_nil, hsz, Bool.and_true, Bool.true_and]
      simpa using h
  · (repeat (first
      | refine Run.seq ?_
      | refine Run.skip ?_
      | refine Run.block ?_
      | refine Run.blk ?_
      | (refine Run.exit rfl ?_)
      | (refine Run.reg mixed ?_; simp -implicitDefEqProofs only [go_sem, eq_self, Nat.reduceEqDiff, Nat.reduceBEq, Nat.reduceAdd, Nat.reduceLeDiff, reduceIte, reduceCtorEq, tysA, tyA, Ty.enc, Ty.encs])
      | (refine Run.condM ?_; simp -implicitDefEqProofs only [go_sem, eq_self, Nat.reduceEqDiff, Nat.reduceBEq, Nat.reduceAdd, Nat.reduceLeDiff, reduceIte, reduceCtorEq, tysA, tyA, Ty.enc, Ty.encs])))
    refine Run.retP g_keep_Types (Heap.le_refl _) ?_
    simp -implicitDefEqProofs only [rs_keep_Types, encs_len, go_sem, eq_self, Nat.reduceEqDiff, Nat.reduceBEq, Nat.reduceAdd, Nat.reduceLeDiff, reduceIte, reduceCtorEq, tysA, tyA, Ty.enc, Ty.encs]
    have e2 : decide ((l.length : Int) ≤ 4) = decide (l.length ≤ 4) := by rw [decide_eq_decide]; omega
    rw [e2]
    simp only [Bool.and_eq_false_iff, decide_eq_false_iff_not] at h
    by_cases h4 : l.length ≤ 4
    · have : i = l.length := by omega
      subst this
      rw [List.take_length] at ha
      simp [ha, h4]
    · simp [h4]

/-! ### IndexFunc, ContainsFunc, Ground -/

def findT (p : Ty → Bool) : List Ty → Nat → Int
  | [], _ => -1
  | t :: l, i => if p t then i else findT p l (i + 1)

theorem findT_drop (p : Ty → Bool) (l : List Ty) (i : Nat) (t : Ty) (ht : l[i]? = some t) : findT p (l.drop i) i = if p t then (i : Int) else findT p (l.drop (i + 1)) (i + 1) := by
  have hlt := (List.getElem?_eq_some_iff.1 ht).1
  have h1 : l.drop i = t :: l.drop (i + 1) := by
    rw [List.drop_eq_getElem_cons hlt]; congr 1; exact (List.getElem?_eq_some_iff.1 ht).2
  rw [h1]; rfl
theorem findT_any (p : Ty → Bool) : ∀ (l : List Ty) (i : Nat), decide (0 ≤ findT p l i) = l.any p
  | [], i => rfl
  | t :: l, i => by
    simp only [findT, List.any_cons]
    by_cases h : p t = true
    · simp [h]
    · have h' : p t = false := by simpa using h
      simpa [h'] using findT_any p l (i + 1)

theorem IndexFunc_ok {fid : FuncId} {first caps : List AV} (hb : hasBody Try.prog fid = true) (hn : (first ++ caps).all AV.noLp = true) (p : Ty → Bool) (σ : Heap) (l : List Ty) (hll : l.length ≤ 1000000)
    (hstep : ∀ t, t ∈ l → ACalls Try.prog fid (first ++ [tyA t] ++ caps) σ (fun v σ' => v = .d (.bool (p t)) ∧ σ' = σ)) :
    ACalls Try.prog 27 [tysA l, .fn fid first caps] σ (fun v σ' => v = .d (.int .i64 (findT p l 0)) ∧ σ' = σ) := by
  refine i_slices_IndexFunc_api_Type (by simp) ?_
  rw [argF_2]
  (repeat (first
      | refine Run.seq ?_
      | refine Run.skip ?_
      | refine Run.block ?_
      | refine Run.blk ?_
      | (refine Run.exit rfl ?_)
      | (refine Run.reg mixed ?_; simp -implicitDefEqProofs only [go_sem, eq_self, Nat.reduceEqDiff, Nat.reduceBEq, Nat.reduceAdd, Nat.reduceLeDiff, reduceIte, reduceCtorEq, tysA, tyA, Ty.enc, Ty.encs])
      | (refine Run.condM ?_; simp -implicitDefEqProofs only [go_sem, eq_self, Nat.reduceEqDiff, Nat.reduceBEq, Nat.reduceAdd, Nat.reduceLeDiff, reduceIte, reduceCtorEq, tysA, tyA, Ty.enc, Ty.encs])))
  refine Run.loopA ?_
  rw [encs_len]
  refine Run.loopI (fun i : Nat => put 0 (tysA l) (put 1 (.fn fid first caps) (put 7 (.d (.int .i64 l.length)) (put 8 (.d (.int .i64 i)) U)))) (fun _ => E) (fun _ => σ)
    (fun i => i ≤ l.length ∧ findT p l 0 = findT p (l.drop i) i) (fun i => l.length - i) ?_ 0 ⟨by omega, by simp⟩
  rintro i ⟨hil, hs⟩ ih
  (repeat (first
      | refine Run.seq ?_
      | refine Run.skip ?_
      | refine Run.block ?_
      | refine Run.blk ?_
      | (refine Run.exit rfl ?_)
      | (refine Run.reg mixed ?_; simp -implicitDefEqProofs only [go_sem, eq_self, Nat.reduceEqDiff, Nat.reduceBEq, Nat.reduceAdd, Nat.reduceLeDiff, reduceIte, reduceCtorEq, tysA, tyA, Ty.enc, Ty.encs])
      | (refine Run.condM ?_; simp -implicitDefEqProofs only [go_sem, eq_self, Nat.reduceEqDiff, Nat.reduceBEq, Nat.reduceAdd, Nat.reduceLeDiff, reduceIte, reduceCtorEq, tysA, tyA, Ty.enc, Ty.encs])))
  refine ⟨fun h => ?_, fun h => ?_⟩
  · have hlt : i < l.length := by simp at h; omega
    obtain ⟨t, ht⟩ : ∃ t, l[i]? = some t := ⟨l[i], by simp [hlt]⟩
    have hd := findT_drop p l i t ht
    have hs2 := hstep t (List.mem_of_getElem? ht)
    obtain ⟨k1, n1, a1⟩ := t
    have he1 := encs_at ht
    (repeat (first
      | refine Run.seq ?_
      | refine Run.skip ?_
      | refine Run.block ?_
      | refine Run.blk ?_
      | (refine Run.exit rfl ?_)
      | (refine Run.reg mixed ?_; simp -implicitDefEqProofs only [go_sem, eq_self, Nat.reduceEqDiff, Nat.reduceBEq, Nat.reduceAdd, Nat.reduceLeDiff, reduceIte, reduceCtorEq, tysA, tyA, Ty.enc, Ty.encs])
      | (refine Run.condM ?_; simp -implicitDefEqProofs only [go_sem, eq_self, Nat.reduceEqDiff, Nat.reduceBEq, Nat.reduceAdd, Nat.reduceLeDiff, reduceIte, reduceCtorEq, tysA, tyA, Ty.enc, Ty.encs])))
    simp -implicitDefEqProofs only [he1, go_sem, eq_self, Nat.reduceEqDiff, Nat.reduceBEq, Nat.reduceAdd, Nat.reduceLeDiff, reduceIte, reduceCtorEq, tysA, tyA, Ty.enc, Ty.encs]
    refine ⟨fid, first, caps, rfl, hb, XCall.mk ?_ hs2 ?_⟩
    · simp only [List.all_append, Bool.and_eq_true] at hn
      simp [hn.1, hn.2, AV.noLp]
    rintro v σ' ⟨rfl, rfl⟩
    simp -implicitDefEqProofs only [go_sem, eq_self, Nat.reduceEqDiff, Nat.reduceBEq, Nat.reduceAdd, Nat.reduceLeDiff, reduceIte, reduceCtorEq, tysA, tyA, Ty.enc, Ty.encs]
    (repeat (first
      | refine Run.seq ?_
      | refine Run.skip ?_
      | refine Run.block ?_
      | refine Run.blk ?_
      | (refine Run.exit rfl ?_)
      | (refine Run.reg mixed ?_; simp -implicitDefEqProofs only [go_sem, eq_self, Nat.reduceEqDiff, Nat.reduceBEq, Nat.reduceAdd, Nat.reduceLeDiff, reduceIte, reduceCtorEq, tysA, tyA, Ty.enc, Ty.encs])
      | (refine Run.condM ?_; simp -implicitDefEqProofs only [go_sem, eq_self, Nat.reduceEqDiff, Nat.reduceBEq, Nat.reduceAdd, Nat.reduceLeDiff, reduceIte, reduceCtorEq, tysA, tyA, Ty.enc, Ty.encs])))
    refine ⟨fun h => ?_, fun h => ?_⟩
    · (repeat (first
      | refine Run.seq ?_
      | refine Run.skip ?_
      | refine Run.block ?_
      | refine Run.blk ?_
      | (refine Run.exit rfl ?_)
      | (refine Run.reg mixed ?_; simp -implicitDefEqProofs only [go_sem, eq_self, Nat.reduceEqDiff, Nat.reduceBEq, Nat.reduceAdd, Nat.reduceLeDiff, reduceIte, reduceCtorEq, tysA, tyA, Ty.enc, Ty.encs])
      | (refine Run.condM ?_; simp -implicitDefEqProofs only [go_sem, eq_self, Nat.reduceEqDiff, Nat.reduceBEq, Nat.reduceAdd, Nat.reduceLeDiff, reduceIte, reduceCtorEq, tysA, tyA, Ty.enc, Ty.encs])))
      refine Run.retP g_slices_IndexFunc_api_Type (Heap.le_refl _) ?_
      simp -implicitDefEqProofs only [rs_slices_IndexFunc_api_Type, go_sem, eq_self, Nat.reduceEqDiff, Nat.reduceBEq, Nat.reduceAdd, Nat.reduceLeDiff, reduceIte, reduceCtorEq, tysA, tyA, Ty.enc, Ty.encs]
      rw [hs, hd, h]
      simp
    · (repeat (first
      | refine Run.seq ?_
      | refine Run.skip ?_
      | refine Run.block ?_
      | refine Run.blk ?_
      | (refine Run.exit rfl ?_)
      | (refine Run.reg mixed ?_; simp -implicitDefEqProofs only [go_sem, eq_self, Nat.reduceEqDiff, Nat.reduceBEq, Nat.reduceAdd, Nat.reduceLeDiff, reduceIte, reduceCtorEq, tysA, tyA, Ty.enc, Ty.encs])
      | (refine Run.condM ?_; simp -implicitDefEqProofs only [go_sem, eq_self, Nat.reduceEqDiff, Nat.reduceBEq, Nat.reduceAdd, Nat.reduceLeDiff, reduceIte, reduceCtorEq, tysA, tyA, Ty.enc, Ty.encs])))
      rw [wrap_succ (by omega)]
      exact ih (i + 1) ⟨by omega, by rw [hs, hd, h]; simp⟩ (by omega)
  · have hge : i = l.length := by simp at h; omega
    subst hge
    (repeat (first
      | refine Run.seq ?_
      | refine Run.skip ?_
      | refine Run.block ?_
      | refine Run.blk ?_
      | (refine Run.exit rfl ?_)
      | (refine Run.reg mixed ?_; simp -implicitDefEqProofs only [go_sem, eq_self, Nat.reduceEqDiff, Nat.reduceBEq, Nat.reduceAdd, Nat.reduceLeDiff, reduceIte, reduceCtorEq, tysA, tyA, Ty.enc, Ty.encs])
      | (refine Run.condM ?_; simp -implicitDefEqProofs only [go_sem, eq_self, Nat.reduceEqDiff, Nat.reduceBEq, Nat.reduceAdd, Nat.reduceLeDiff, reduceIte, reduceCtorEq, tysA, tyA, Ty.enc, Ty.encs])))
    refine Run.retP g_slices_IndexFunc_api_Type (Heap.le_refl _) ?_
    simp -implicitDefEqProofs only [rs_slices_IndexFunc_api_Type, go_sem, eq_self, Nat.reduceEqDiff, Nat.reduceBEq, Nat.reduceAdd, Nat.reduceLeDiff, reduceIte, reduceCtorEq, tysA, tyA, Ty.enc, Ty.encs]
    rw [hs]
    simp [findT]

theorem ContainsFunc_ok {fid : FuncId} {first caps : List AV} (hb : hasBody Try.prog fid = true) (hn : (first ++ caps).all AV.noLp = true) (p : Ty → Bool) (σ : Heap) (l : List Ty) (hll : l.length ≤ 1000000)
    (hstep : ∀ t, t ∈ l → ACalls Try.prog fid (first ++ [tyA t] ++ caps) σ (fun v σ' => v = .d (.bool (p t)) ∧ σ' = σ)) :
    ACalls Try.prog 22 [tysA l, .fn fid first caps] σ (fun v σ' => v = .d (.bool (l.any p)) ∧ σ' = σ) := by
  refine i_slices_ContainsFunc_api_Type (by simp) ?_
  rw [argF_2]
  (repeat (first
      | refine Run.seq ?_
      | refine Run.skip ?_
      | refine Run.block ?_
      | refine Run.blk ?_
      | (refine Run.exit rfl ?_)
      | (refine Run.reg mixed ?_; simp -implicitDefEqProofs only [go_sem, eq_self, Nat.reduceEqDiff, Nat.reduceBEq, Nat.reduceAdd, Nat.reduceLeDiff, reduceIte, reduceCtorEq, tysA, tyA, Ty.enc, Ty.encs])
      | (refine Run.condM ?_; simp -implicitDefEqProofs only [go_sem, eq_self, Nat.reduceEqDiff, Nat.reduceBEq, Nat.reduceAdd, Nat.reduceLeDiff, reduceIte, reduceCtorEq, tysA, tyA, Ty.enc, Ty.encs])))
  refine XCall.mk rfl (IndexFunc_ok hb hn p σ l hll hstep) ?_
  rintro v σ' ⟨rfl, rfl⟩
  simp -implicitDefEqProofs only [go_sem, eq_self, Nat.reduceEqDiff, Nat.reduceBEq, Nat.reduceAdd, Nat.reduceLeDiff, reduceIte, reduceCtorEq, tysA, tyA, Ty.enc, Ty.encs]
  (repeat (first
      | refine Run.seq ?_
      | refine Run.skip ?_
      | refine Run.block ?_
      | refine Run.blk ?_
      | (refine Run.exit rfl ?_)
      | (refine Run.reg mixed ?_; simp -implicitDefEqProofs only [go_sem, eq_self, Nat.reduceEqDiff, Nat.reduceBEq, Nat.reduceAdd, Nat.reduceLeDiff, reduceIte, reduceCtorEq, tysA, tyA, Ty.enc, Ty.encs])
      | (refine Run.condM ?_; simp -implicitDefEqProofs only [go_sem, eq_self, Nat.reduceEqDiff, Nat.reduceBEq, Nat.reduceAdd, Nat.reduceLeDiff, reduceIte, reduceCtorEq, tysA, tyA, Ty.enc, Ty.encs])))
  refine Run.retP g_slices_ContainsFunc_api_Type (Heap.le_refl _) ?_
  simp -implicitDefEqProofs only [rs_slices_ContainsFunc_api_Type, go_sem, eq_self, Nat.reduceEqDiff, Nat.reduceBEq, Nat.reduceAdd, Nat.reduceLeDiff, reduceIte, reduceCtorEq, tysA, tyA, Ty.enc, Ty.encs]
  rw [findT_any]

/-! ### vars -/

mutual
def Ty.vars (n : Int) : Ty → Bool
  | .mk k m l => if k = 4 then decide (0 ≤ m) && decide (m < n) && decide (l.length = 0) else Ty.varss n l
def Ty.varss (n : Int) : List Ty → Bool
  | [] => true
  | t :: l => Ty.vars n t && Ty.varss n l
end
theorem varss_drop (n : Int) (l : List Ty) (i : Nat) (t : Ty) (ht : l[i]? = some t) : Ty.varss n (l.drop i) = (t.vars n && Ty.varss n (l.drop (i + 1))) := by
  have hlt := (List.getElem?_eq_some_iff.1 ht).1
  have h1 : l.drop i = t :: l.drop (i + 1) := by
    rw [List.drop_eq_getElem_cons hlt]; congr 1; exact (List.getElem?_eq_some_iff.1 ht).2
  rw [h1]; rfl

theorem law06_vars_ok (m : Int) (n : Nat) : ∀ (t : Ty) (σ : Heap), t.size ≤ n → n ≤ 1000000 → ACalls Try.prog 15 [tyA t, .d (.int .i64 m)] σ (fun v σ' => v = .d (.bool (t.vars m)) ∧ σ' = σ) := by
  induction n with
  | zero => intro t σ h; have := size_pos t; omega
  | succ n ih =>
    intro t σ ht hn
    obtain ⟨kd, nm, l⟩ := t
    have hsl : Ty.sizes l ≤ n := by simp only [Ty.size] at ht; omega
    have hll := len_sizes l
    refine i_law06_vars (by simp) ?_
    rw [argF_2]
    (repeat (first
      | refine Run.seq ?_
      | refine Run.skip ?_
      | refine Run.block ?_
      | refine Run.blk ?_
      | (refine Run.exit rfl ?_)
      | (refine Run.reg mixed ?_; simp -implicitDefEqProofs only [go_sem, eq_self, Nat.reduceEqDiff, Nat.reduceBEq, Nat.reduceAdd, Nat.reduceLeDiff, reduceIte, reduceCtorEq, tysA, tyA, Ty.enc, Ty.encs])
      | (refine Run.condM ?_; simp -implicitDefEqProofs only [go_sem, eq_self, Nat.reduceEqDiff, Nat.reduceBEq, Nat.reduceAdd, Nat.reduceLeDiff, reduceIte, reduceCtorEq, tysA, tyA, Ty.enc, Ty.encs])))
    refine ⟨fun h => ?_, fun h => ?_⟩
    · have hk : kd = 4 := by simpa using h
      (repeat (first
      | refine Run.seq ?_
      | refine Run.skip ?_
      | refine Run.block ?_
      | refine Run.blk ?_
      | (refine Run.exit rfl ?_)))
      refine Run.regCut mixed (put 4 (.d (.bool ((Ty.mk kd nm l).vars m))) U) E σ ?_ ?_
      · have e : ((l.length : Int) == 0) = decide (l.length = 0) := by
          rw [Bool.eq_iff_iff]; simp
        cases h1 : decide (0 ≤ nm)
        · simp -implicitDefEqProofs only [h1, Ty.vars, hk, go_sem, eq_self, Nat.reduceEqDiff, Nat.reduceBEq, Nat.reduceAdd, Nat.reduceLeDiff, reduceIte, reduceCtorEq, tysA, tyA, Ty.enc, Ty.encs]
        · cases h2 : decide (nm < m)
          · simp -implicitDefEqProofs only [h1, h2, Ty.vars, hk, go_sem, eq_self, Nat.reduceEqDiff, Nat.reduceBEq, Nat.reduceAdd, Nat.reduceLeDiff, reduceIte, reduceCtorEq, tysA, tyA, Ty.enc, Ty.encs]
          · simp -implicitDefEqProofs only [h1, h2, Ty.vars, hk, encs_len, e, go_sem, eq_self, Nat.reduceEqDiff, Nat.reduceBEq, Nat.reduceAdd, Nat.reduceLeDiff, reduceIte, reduceCtorEq, tysA, tyA, Ty.enc, Ty.encs]
      · (repeat (first
      | refine Run.seq ?_
      | refine Run.skip ?_
      | refine Run.block ?_
      | refine Run.blk ?_
      | (refine Run.exit rfl ?_)
      | (refine Run.reg mixed ?_; simp -implicitDefEqProofs only [go_sem, eq_self, Nat.reduceEqDiff, Nat.reduceBEq, Nat.reduceAdd, Nat.reduceLeDiff, reduceIte, reduceCtorEq, tysA, tyA, Ty.enc, Ty.encs])
      | (refine Run.condM ?_; simp -implicitDefEqProofs only [go_sem, eq_self, Nat.reduceEqDiff, Nat.reduceBEq, Nat.reduceAdd, Nat.reduceLeDiff, reduceIte, reduceCtorEq, tysA, tyA, Ty.enc, Ty.encs])))
        refine Run.retP g_law06_vars (Heap.le_refl _) ?_
        simp -implicitDefEqProofs only [rs_law06_vars, go_sem, eq_self, Nat.reduceEqDiff, Nat.reduceBEq, Nat.reduceAdd, Nat.reduceLeDiff, reduceIte, reduceCtorEq, tysA, tyA, Ty.enc, Ty.encs]
    · have hk : ¬ kd = 4 := by simpa using h
      have hv : (Ty.mk kd nm l).vars m = Ty.varss m l := by simp [Ty.vars, hk]
      rw [hv]
      (repeat (first
      | refine Run.seq ?_
      | refine Run.skip ?_
      | refine Run.block ?_
      | refine Run.blk ?_
      | (refine Run.exit rfl ?_)
      | (refine Run.reg mixed ?_; simp -implicitDefEqProofs only [go_sem, eq_self, Nat.reduceEqDiff, Nat.reduceBEq, Nat.reduceAdd, Nat.reduceLeDiff, reduceIte, reduceCtorEq, tysA, tyA, Ty.enc, Ty.encs])
      | (refine Run.condM ?_; simp -implicitDefEqProofs only [go_sem, eq_self, Nat.reduceEqDiff, Nat.reduceBEq, Nat.reduceAdd, Nat.reduceLeDiff, reduceIte, reduceCtorEq, tysA, tyA, Ty.enc, Ty.encs])))
      refine Run.loopA ?_
      rw [encs_len]
      refine Run.loopI (fun i : Nat => put 1 (.d (.int .i64 m)) (put 26 (tysA l) (put 27 (.d (.int .i64 l.length)) (put 28 (.d (.int .i64 i)) U)))) (fun _ => E) (fun _ => σ)
        (fun i => i ≤ l.length ∧ Ty.varss m l = Ty.varss m (l.drop i)) (fun i => l.length - i) ?_ 0 ⟨by omega, by simp⟩
      rintro i ⟨hil, hs⟩ ihl
      (repeat (first
      | refine Run.seq ?_
      | refine Run.skip ?_
      | refine Run.block ?_
      | refine Run.blk ?_
      | (refine Run.exit rfl ?_)
      | (refine Run.reg mixed ?_; simp -implicitDefEqProofs only [go_sem, eq_self, Nat.reduceEqDiff, Nat.reduceBEq, Nat.reduceAdd, Nat.reduceLeDiff, reduceIte, reduceCtorEq, tysA, tyA, Ty.enc, Ty.encs])
      | (refine Run.condM ?_; simp -implicitDefEqProofs only [go_sem, eq_self, Nat.reduceEqDiff, Nat.reduceBEq, Nat.reduceAdd, Nat.reduceLeDiff, reduceIte, reduceCtorEq, tysA, tyA, Ty.enc, Ty.encs])))
      refine ⟨fun h => ?_, fun h => ?_⟩
      · have hlt : i < l.length := by simp at h; omega
        obtain ⟨t, ht'⟩ : ∃ t, l[i]? = some t := ⟨l[i], by simp [hlt]⟩
        have hd := varss_drop m l i t ht'
        have hs2 := ih t σ (by have := mem_sz (List.mem_of_getElem? ht'); omega) (by omega)
        obtain ⟨k1, n1, a1⟩ := t
        have he1 := encs_at ht'
        (repeat (first
      | refine Run.seq ?_
      | refine Run.skip ?_
      | refine Run.block ?_
      | refine Run.blk ?_
      | (refine Run.exit rfl ?_)
      | (refine Run.reg mixed ?_; simp -implicitDefEqProofs only [go_sem, eq_self, Nat.reduceEqDiff, Nat.reduceBEq, Nat.reduceAdd, Nat.reduceLeDiff, reduceIte, reduceCtorEq, tysA, tyA, Ty.enc, Ty.encs])
      | (refine Run.condM ?_; simp -implicitDefEqProofs only [go_sem, eq_self, Nat.reduceEqDiff, Nat.reduceBEq, Nat.reduceAdd, Nat.reduceLeDiff, reduceIte, reduceCtorEq, tysA, tyA, Ty.enc, Ty.encs])))
        simp -implicitDefEqProofs only [he1, go_sem, eq_self, Nat.reduceEqDiff, Nat.reduceBEq, Nat.reduceAdd, Nat.reduceLeDiff, reduceIte, reduceCtorEq, tysA, tyA, Ty.enc, Ty.encs]
        (repeat (first
      | refine Run.seq ?_
      | refine Run.skip ?_
      | refine Run.block ?_
      | refine Run.blk ?_
      | (refine Run.exit rfl ?_)
      | (refine Run.reg mixed ?_; simp -implicitDefEqProofs only [go_sem, eq_self, Nat.reduceEqDiff, Nat.reduceBEq, Nat.reduceAdd, Nat.reduceLeDiff, reduceIte, reduceCtorEq, tysA, tyA, Ty.enc, Ty.encs])
      | (refine Run.condM ?_; simp -implicitDefEqProofs only [go_sem, eq_self, Nat.reduceEqDiff, Nat.reduceBEq, Nat.reduceAdd, Nat.reduceLeDiff, reduceIte, reduceCtorEq, tysA, tyA, Ty.enc, Ty.encs])))
        refine XCall.mk rfl hs2 ?_
        rintro v σ' ⟨rfl, rfl⟩
        simp -implicitDefEqProofs only [go_sem, eq_self, Nat.reduceEqDiff, Nat.reduceBEq, Nat.reduceAdd, Nat.reduceLeDiff, reduceIte, reduceCtorEq, tysA, tyA, Ty.enc, Ty.encs]
        (repeat (first
      | refine Run.seq ?_
      | refine Run.skip ?_
      | refine Run.block ?_
      | refine Run.blk ?_
      | (refine Run.exit rfl ?_)
      | (refine Run.reg mixed ?_; simp -implicitDefEqProofs only [go_sem, eq_self, Nat.reduceEqDiff, Nat.reduceBEq, Nat.reduceAdd, Nat.reduceLeDiff, reduceIte, reduceCtorEq, tysA, tyA, Ty.enc, Ty.encs])
      | (refine Run.condM ?_; simp -implicitDefEqProofs only [go_sem, eq_self, Nat.reduceEqDiff, Nat.reduceBEq, Nat.reduceAdd, Nat.reduceLeDiff, reduceIte, reduceCtorEq, tysA, tyA, Ty.enc, Ty.encs])))
        refine ⟨fun h => ?_, fun h => ?_⟩
        · simp only [Bool.not_eq_true'] at h
          (repeat (first
      | refine Run.seq ?_
      | refine Run.skip ?_
      | refine Run.block ?_
      | refine Run.blk ?_
      | (refine Run.exit rfl ?_)
      | (refine Run.reg mixed ?_; simp -implicitDefEqProofs only [go_sem, eq_self, Nat.reduceEqDiff, Nat.reduceBEq, Nat.reduceAdd, Nat.reduceLeDiff, reduceIte, reduceCtorEq, tysA, tyA, Ty.enc, Ty.encs])
      | (refine Run.condM ?_; simp -implicitDefEqProofs only [go_sem, eq_self, Nat.reduceEqDiff, Nat.reduceBEq, Nat.reduceAdd, Nat.reduceLeDiff, reduceIte, reduceCtorEq, tysA, tyA, Ty.enc, Ty.encs])))
          refine Run.retP g_law06_vars (Heap.le_refl _) ?_
          simp -implicitDefEqProofs only [rs_law06_vars, go_sem, eq_self, Nat.reduceEqDiff, Nat.reduceBEq, Nat.reduceAdd, Nat.reduceLeDiff, reduceIte, reduceCtorEq, tysA, tyA, Ty.enc, Ty.encs]
          rw [hs, hd, h]
          simp
        · simp only [Bool.not_eq_false'] at h
          (repeat (first
      | refine Run.seq ?_
      | refine Run.skip ?_
      | refine Run.block ?_
      | refine Run.blk ?_
      | (refine Run.exit rfl ?_)
      | (refine Run.reg mixed ?_; simp -implicitDefEqProofs only [go_sem, eq_self, Nat.reduceEqDiff, Nat.reduceBEq, Nat.reduceAdd, Nat.reduceLeDiff, reduceIte, reduceCtorEq, tysA, tyA, Ty.enc, Ty.encs])
      | (refine Run.condM ?_; simp -implicitDefEqProofs only [go_sem, eq_self, Nat.reduceEqDiff, Nat.reduceBEq, Nat.reduceAdd, Nat.reduceLeDiff, reduceIte, reduceCtorEq, tysA, tyA, Ty.enc, Ty.encs])))
          rw [wrap_succ (by omega)]
          exact ihl (i + 1) ⟨by omega, by rw [hs, hd, h]; simp⟩ (by omega)
      · have hge : i = l.length := by simp at h; omega
        subst hge
        (repeat (first
      | refine Run.seq ?_
      | refine Run.skip ?_
      | refine Run.block ?_
      | refine Run.blk ?_
      | (refine Run.exit rfl ?_)
      | (refine Run.reg mixed ?_; simp -implicitDefEqProofs only [go_sem, eq_self, Nat.reduceEqDiff, Nat.reduceBEq, Nat.reduceAdd, Nat.reduceLeDiff, reduceIte, reduceCtorEq, tysA, tyA, Ty.enc, Ty.encs])
      | (refine Run.condM ?_; simp -implicitDefEqProofs only [go_sem, eq_self, Nat.reduceEqDiff, Nat.reduceBEq, Nat.reduceAdd, Nat.reduceLeDiff, reduceIte, reduceCtorEq, tysA, tyA, Ty.enc, Ty.encs])))
        refine Run.retP g_law06_vars (Heap.le_refl _) ?_
        simp -implicitDefEqProofs only [rs_law06_vars, go_sem, eq_self, Nat.reduceEqDiff, Nat.reduceBEq, Nat.reduceAdd, Nat.reduceLeDiff, reduceIte, reduceCtorEq, tysA, tyA, Ty.enc, Ty.encs]
        rw [hs]
        simp [Ty.varss]
end Go.Ab
