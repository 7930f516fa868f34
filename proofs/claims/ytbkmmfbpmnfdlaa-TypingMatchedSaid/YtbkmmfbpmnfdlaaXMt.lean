/- The matcher. Conditions: the types are small. -/
import Derived.Test.YtbkmmfbpmnfdlaaXMe
set_option linter.unusedSimpArgs false
set_option linter.unusedVariables false
namespace Go.Ab
open Go.Proofs

structure MS where
  found : List Bool
  types : List Ty
  count : Int

mutual
def Ty.mt : Ty → MS → Ty → Bool × MS
  | .mk k n l, x, u =>
    if k = 4 then
      (if n < 0 ∨ 100 < n then (false, x)
       else if x.found.getD n.toNat false then ((x.types.getD n.toNat (.mk 0 0 [])).same u, x)
       else (true, ⟨x.found.set n.toNat true, x.types.set n.toNat u, if n + 1 > x.count then n + 1 else x.count⟩))
    else if k = u.kind ∧ n = u.num then (if l.length ≠ u.args.length then (false, x) else Ty.mts l x u.args) else (false, x)
def Ty.mts : List Ty → MS → List Ty → Bool × MS
  | t :: l, x, u :: m => if (Ty.mt t x u).1 then Ty.mts l (Ty.mt t x u).2 m else (false, (Ty.mt t x u).2)
  | _, x, _ => (true, x)
end

theorem alls_mts : ∀ (l : List Ty) (x : MS) (m : List Ty), alls (fun x t u => t.mt x u) x l m = Ty.mts l x m
  | t :: l, x, u :: m => by simp only [alls, Ty.mts, alls_mts l]
  | [], x, m => by simp [alls, Ty.mts]
  | t :: l, x, [] => by simp [alls, Ty.mts]

structure MS.ok (B : Nat) (x : MS) : Prop where
  found : x.found.length = 101
  types : x.types.length = 101
  count : 0 ≤ x.count ∧ x.count ≤ 101
  small : ∀ t ∈ x.types, t.size ≤ B

mutual
theorem mt_ok (B : Nat) : ∀ (t : Ty) (x : MS) (u : Ty), x.ok B → u.size ≤ B → (t.mt x u).2.ok B
  | .mk k n l, x, u, hx, hu => by
    simp only [Ty.mt]
    split
    · split
      · exact hx
      · split
        · exact hx
        · refine ⟨by simp [hx.found], by simp [hx.types], ?_, fun t ht => ?_⟩
          · have := hx.count; simp only; split <;> omega
          · rcases List.mem_or_eq_of_mem_set ht with h | h
            · exact hx.small t h
            · rw [h]; exact hu
    · split
      · split
        · exact hx
        · obtain ⟨k', n', l'⟩ := u
          exact mts_ok B l x l' hx (fun u hu' => by have := mem_sz hu'; simp only [Ty.size] at hu; omega)
      · exact hx
theorem mts_ok (B : Nat) : ∀ (l : List Ty) (x : MS) (m : List Ty), x.ok B → (∀ u ∈ m, u.size ≤ B) → (Ty.mts l x m).2.ok B
  | t :: l, x, u :: m, hx, hm => by
    simp only [Ty.mts]
    have h1 := mt_ok B t x u hx (hm u (by simp))
    split
    · exact mts_ok B l _ m h1 (fun u hu => hm u (by simp [hu]))
    · exact h1
  | [], x, m, hx, _ => by simpa [Ty.mts] using hx
  | t :: l, x, [], hx, _ => by simpa [Ty.mts] using hx
end

/-! ### Rows of several cells each -/

theorem flatR_len {α : Type} (f : α → List AV) (s : Nat) (hf : ∀ x, (f x).length = s) : ∀ l : List α, (l.map f).flatten.length = l.length * s
  | [] => by simp
  | x :: l => by simp [hf x, flatR_len f s hf l, Nat.add_mul]; omega
theorem flatR_get {α : Type} (f : α → List AV) (s : Nat) (hf : ∀ x, (f x).length = s) : ∀ (l : List α) (i : Nat) (x : α), l[i]? = some x → ((l.map f).flatten.drop (i * s)).take s = f x
  | [], i, x, h => by simp at h
  | y :: l, 0, x, h => by
    simp at h; subst h
    simp [List.take_append_of_le_length, hf y]
  | y :: l, i + 1, x, h => by
    have e : (i + 1) * s = (f y).length + i * s := by rw [hf y, Nat.add_mul]; omega
    rw [e, List.map_cons, List.flatten_cons, List.drop_append]
    simp only [Nat.add_sub_cancel_left]
    rw [List.drop_of_length_le (by omega)]
    simpa using flatR_get f s hf l i x (by simpa using h)
theorem flatR_set {α : Type} (f : α → List AV) (s : Nat) (hf : ∀ x, (f x).length = s) : ∀ (l : List α) (i : Nat) (x : α), i < l.length → wr (l.map f).flatten (i * s) (f x) = ((l.set i x).map f).flatten
  | [], i, x, h => by simp at h
  | y :: l, 0, x, h => by
    simp [wr, hf x]
    rw [List.drop_append, List.drop_of_length_le (by rw [hf y]; exact Nat.le_refl _)]
    simp [hf y]
  | y :: l, i + 1, x, h => by
    have ih := flatR_set f s hf l i x (by simpa using h)
    have e : (i + 1) * s = (f y).length + i * s := by rw [hf y, Nat.add_mul]; omega
    simp only [wr] at ih ⊢
    rw [e, List.map_cons, List.flatten_cons, List.set_cons_succ, List.map_cons, List.flatten_cons, ← ih, List.take_length_add_append, Nat.add_assoc, List.drop_append]
    rw [List.drop_of_length_le (by omega)]
    simp

def encA (t : Ty) : List AV := t.enc.map AV.d
theorem encA_len (t : Ty) : (encA t).length = 3 := by simp [encA, enc_len]
def flatT (l : List Ty) : List AV := (l.map encA).flatten
def flatB (l : List Bool) : List AV := l.map fun b => .d (.bool b)

def hpM (σ : Heap) (i j k : Nat) (x : MS) : Heap := ((σ.setBlk j (flatB x.found)).setBlk k (flatT x.types)).setBlk i [.ms j 101, .ms k 101, .d (.int .i64 x.count)]

theorem setBlk_comm (σ : Heap) {i j : Nat} (h : i ≠ j) (a b : List AV) : (σ.setBlk i a).setBlk j b = (σ.setBlk j b).setBlk i a := by
  unfold Heap.setBlk
  congr 1
  funext s
  by_cases h1 : s = j
  · have : s ≠ i := fun e => h (by omega)
    simp [h1, this]
    intro e; omega
  · simp [h1]

structure Ids (i j k : Nat) : Prop where
  ij : i ≠ j
  ik : i ≠ k
  jk : j ≠ k

variable {σ : Heap} {i j k : Nat} {x : MS}
theorem hpM_i : (hpM σ i j k x).blk i = some [.ms j 101, .ms k 101, .d (.int .i64 x.count)] := by simp [hpM, setBlk_get]
theorem hpM_j (h : Ids i j k) : (hpM σ i j k x).blk j = some (flatB x.found) := by simp [hpM, setBlk_get, h.jk, h.ij.symm]
theorem hpM_k (h : Ids i j k) : (hpM σ i j k x).blk k = some (flatT x.types) := by simp [hpM, setBlk_get, h.ik.symm]
theorem hpM_set (h : Ids i j k) (l : List Bool) (m : List Ty) (c : Int) : (((hpM σ i j k x).setBlk j (flatB l)).setBlk k (flatT m)).setBlk i [.ms j 101, .ms k 101, .d (.int .i64 c)] = hpM σ i j k ⟨l, m, c⟩ := by
  unfold hpM
  rw [setBlk_comm _ h.ij, setBlk_comm (σ.setBlk j (flatB x.found)) h.jk.symm, setBlk_set, setBlk_comm _ h.ik, setBlk_set, setBlk_set]

theorem wr_flatB (l : List Bool) (n : Nat) (h : n < l.length) (b : Bool) : wr (flatB l) n [.d (.bool b)] = flatB (l.set n b) := by
  have := flatR_set (fun b : Bool => [AV.d (.bool b)]) 1 (fun _ => rfl) l n b h
  have e : ∀ l : List Bool, (l.map fun b => [AV.d (.bool b)]).flatten = flatB l := fun l => by
    induction l with
    | nil => rfl
    | cons b l ih => simp [flatB] at ih ⊢; exact ih
  rw [e, e, Nat.mul_one] at this
  exact this

theorem typing_match_ok (h3 : Ids i j k) (B : Nat) (hB : B ≤ 1000000) (n : Nat) : ∀ (t u : Ty) (x : MS), t.size ≤ n → n ≤ 1000000 → u.size ≤ B → x.ok B →
    ACalls Try.prog 21 [.gp i 0, tyA t, tyA u] (hpM σ i j k x) (fun v σ' => v = .d (.bool (t.mt x u).1) ∧ σ' = hpM σ i j k (t.mt x u).2) := by
  induction n with
  | zero => intro t u x h; have := size_pos t; omega
  | succ n ih =>
    intro t u x ht hn hu hx
    obtain ⟨kd, nm, l⟩ := t
    obtain ⟨kd', nm', l'⟩ := u
    have hsl : Ty.sizes l ≤ n := by simp only [Ty.size] at ht; omega
    have hll := len_sizes l
    have hsu : Ty.sizes l' ≤ B := by simp only [Ty.size] at hu; omega
    refine i_typing_matcher_match (by simp) ?_
    rw [argF_3]
    (repeat (first
      | refine Run.seq ?_
      | refine Run.skip ?_
      | refine Run.block ?_
      | refine Run.blk ?_
      | (refine Run.exit rfl ?_)
      | (refine Run.reg mixed ?_; simp -implicitDefEqProofs only [go_sem, eq_self, Nat.reduceEqDiff, Nat.reduceBEq, Nat.reduceAdd, Nat.reduceLeDiff, reduceIte, reduceCtorEq, tysA, tyA, Ty.enc, Ty.encs])
      | (refine Run.condM ?_; simp -implicitDefEqProofs only [go_sem, eq_self, Nat.reduceEqDiff, Nat.reduceBEq, Nat.reduceAdd, Nat.reduceLeDiff, reduceIte, reduceCtorEq, tysA, tyA, Ty.enc, Ty.encs])))
    refine ⟨fun h => ?_, fun h => ?_⟩
    · have hk : kd = 4 := by simpa using h
      (repeat (first
      | refine Run.seq ?_
      | refine Run.skip ?_
      | refine Run.block ?_
      | refine Run.blk ?_
      | (refine Run.exit rfl ?_)))
      refine Run.regCut mixed (put 0 (.gp i 0) (put 4 (.lp 4 0) (put 5 (.lp 5 0) (put 17 (.d (.bool (decide (nm < 0) || decide (100 < nm)))) U))))
        (putL 4 [.d (.int .i64 kd), .d (.int .i64 nm), tysA l] (putL 5 [.d (.int .i64 kd'), .d (.int .i64 nm'), tysA l'] E)) (hpM σ i j k x) ?_ ?_
      · cases h1 : decide (nm < 0)
        · simp -implicitDefEqProofs only [h1, go_sem, eq_self, Nat.reduceEqDiff, Nat.reduceBEq, Nat.reduceAdd, Nat.reduceLeDiff, reduceIte, reduceCtorEq, tysA, tyA, Ty.enc, Ty.encs]
        · simp -implicitDefEqProofs only [h1, go_sem, eq_self, Nat.reduceEqDiff, Nat.reduceBEq, Nat.reduceAdd, Nat.reduceLeDiff, reduceIte, reduceCtorEq, tysA, tyA, Ty.enc, Ty.encs]
      (repeat (first
      | refine Run.seq ?_
      | refine Run.skip ?_
      | refine Run.block ?_
      | refine Run.blk ?_
      | (refine Run.exit rfl ?_)
      | (refine Run.reg mixed ?_; simp -implicitDefEqProofs only [go_sem, eq_self, Nat.reduceEqDiff, Nat.reduceBEq, Nat.reduceAdd, Nat.reduceLeDiff, reduceIte, reduceCtorEq, tysA, tyA, Ty.enc, Ty.encs])
      | (refine Run.condM ?_; simp -implicitDefEqProofs only [go_sem, eq_self, Nat.reduceEqDiff, Nat.reduceBEq, Nat.reduceAdd, Nat.reduceLeDiff, reduceIte, reduceCtorEq, tysA, tyA, Ty.enc, Ty.encs])))
      refine ⟨fun h => ?_, fun h => ?_⟩
      · (repeat (first
      | refine Run.seq ?_
      | refine Run.skip ?_
      | refine Run.block ?_
      | refine Run.blk ?_
      | (refine Run.exit rfl ?_)
      | (refine Run.reg mixed ?_; simp -implicitDefEqProofs only [go_sem, eq_self, Nat.reduceEqDiff, Nat.reduceBEq, Nat.reduceAdd, Nat.reduceLeDiff, reduceIte, reduceCtorEq, tysA, tyA, Ty.enc, Ty.encs])
      | (refine Run.condM ?_; simp -implicitDefEqProofs only [go_sem, eq_self, Nat.reduceEqDiff, Nat.reduceBEq, Nat.reduceAdd, Nat.reduceLeDiff, reduceIte, reduceCtorEq, tysA, tyA, Ty.enc, Ty.encs])))
        refine Run.retP g_typing_matcher_match (Heap.le_refl _) ?_
        simp -implicitDefEqProofs only [rs_typing_matcher_match, go_sem, eq_self, Nat.reduceEqDiff, Nat.reduceBEq, Nat.reduceAdd, Nat.reduceLeDiff, reduceIte, reduceCtorEq, tysA, tyA, Ty.enc, Ty.encs]
        have : nm < 0 ∨ 100 < nm := by simpa using h
        simp [Ty.mt, hk, this]
      · simp only [Bool.or_eq_false_iff, decide_eq_false_iff_not] at h
        obtain ⟨q, rfl⟩ := Int.eq_ofNat_of_zero_le (show 0 ≤ nm by omega)
        have hq : q < 101 := by omega
        have hqf : q < x.found.length := by rw [hx.found]; exact hq
        have hqt : q < x.types.length := by rw [hx.types]; exact hq
        have hr : ¬ ((q : Int) < 0 ∨ 100 < (q : Int)) := by omega
        have e101 : (0 : Int) ≤ (q : Int) ∧ (q : Int) < ((101 : Nat) : Int) := by omega
        have hfg : (flatB x.found)[q]? = some (.d (.bool x.found[q])) := by simp [flatB, hqf]
        have hgd : x.found.getD q false = x.found[q] := by simp [hqf]
        have htg : x.types.getD q (.mk 0 0 []) = x.types[q] := by simp [hqt]
        have hft : List.take 3 (List.drop (q * 3) (flatT x.types)) = encA x.types[q] := flatR_get encA 3 encA_len x.types q x.types[q] (by simp [hqt])
        have hle : q * 3 + 3 ≤ (flatT x.types).length := by
          unfold flatT; rw [flatR_len encA 3 encA_len]; omega
        have hlef : q + 1 ≤ (flatB x.found).length := by simp [flatB]; omega
        (repeat (first
      | refine Run.seq ?_
      | refine Run.skip ?_
      | refine Run.block ?_
      | refine Run.blk ?_
      | (refine Run.exit rfl ?_)
      | (refine Run.reg mixed ?_; simp -implicitDefEqProofs only [hpM_i, e101, go_sem, eq_self, Nat.reduceEqDiff, Nat.reduceBEq, Nat.reduceAdd, Nat.reduceLeDiff, reduceIte, reduceCtorEq, tysA, tyA, Ty.enc, Ty.encs])
      | (refine Run.condM ?_; simp -implicitDefEqProofs only [hpM_i, e101, go_sem, eq_self, Nat.reduceEqDiff, Nat.reduceBEq, Nat.reduceAdd, Nat.reduceLeDiff, reduceIte, reduceCtorEq, tysA, tyA, Ty.enc, Ty.encs])))
        simp -implicitDefEqProofs only [hpM_j h3, Nat.mul_one, hfg, go_sem, eq_self, Nat.reduceEqDiff, Nat.reduceBEq, Nat.reduceAdd, Nat.reduceLeDiff, reduceIte, reduceCtorEq, tysA, tyA, Ty.enc, Ty.encs]
        (repeat (first
      | refine Run.seq ?_
      | refine Run.skip ?_
      | refine Run.block ?_
      | refine Run.blk ?_
      | (refine Run.exit rfl ?_)
      | (refine Run.reg mixed ?_; simp -implicitDefEqProofs only [go_sem, eq_self, Nat.reduceEqDiff, Nat.reduceBEq, Nat.reduceAdd, Nat.reduceLeDiff, reduceIte, reduceCtorEq, tysA, tyA, Ty.enc, Ty.encs])
      | (refine Run.condM ?_; simp -implicitDefEqProofs only [go_sem, eq_self, Nat.reduceEqDiff, Nat.reduceBEq, Nat.reduceAdd, Nat.reduceLeDiff, reduceIte, reduceCtorEq, tysA, tyA, Ty.enc, Ty.encs])))
        refine ⟨fun h => ?_, fun h => ?_⟩
        · have hsm := hx.small x.types[q] (List.getElem_mem hqt)
          have heq := typing_Equal_ok 1000000 x.types[q] (.mk kd' nm' l') (hpM σ i j k x) (by omega) (Nat.le_refl _)
          have hres : (Ty.mk kd q l).mt x (.mk kd' nm' l') = (x.types[q].same (.mk kd' nm' l'), x) := by
            simp only [Ty.mt, hk, if_true, hr, if_false, Int.toNat_natCast, hgd, h, htg]
          rw [hres]
          generalize x.types[q] = tq at *
          obtain ⟨k2, n2, a2⟩ := tq
          (repeat (first
      | refine Run.seq ?_
      | refine Run.skip ?_
      | refine Run.block ?_
      | refine Run.blk ?_
      | (refine Run.exit rfl ?_)))
          (refine Run.reg mixed ?_; simp -implicitDefEqProofs only [hpM_i, e101, go_sem, eq_self, Nat.reduceEqDiff, Nat.reduceBEq, Nat.reduceAdd, Nat.reduceLeDiff, reduceIte, reduceCtorEq, tysA, tyA, Ty.enc, Ty.encs])
          simp -implicitDefEqProofs only [hpM_k h3, hle, go_sem, eq_self, Nat.reduceEqDiff, Nat.reduceBEq, Nat.reduceAdd, Nat.reduceLeDiff, reduceIte, reduceCtorEq, tysA, tyA, Ty.enc, Ty.encs]
          simp -implicitDefEqProofs only [hft, encA, go_sem, eq_self, Nat.reduceEqDiff, Nat.reduceBEq, Nat.reduceAdd, Nat.reduceLeDiff, reduceIte, reduceCtorEq, tysA, tyA, Ty.enc, Ty.encs]
          refine XPCall.mk rfl heq ?_
          simp -implicitDefEqProofs only [go_sem, eq_self, Nat.reduceEqDiff, Nat.reduceBEq, Nat.reduceAdd, Nat.reduceLeDiff, reduceIte, reduceCtorEq, tysA, tyA, Ty.enc, Ty.encs]
          (repeat (first
      | refine Run.seq ?_
      | refine Run.skip ?_
      | refine Run.block ?_
      | refine Run.blk ?_
      | (refine Run.exit rfl ?_)
      | (refine Run.reg mixed ?_; simp -implicitDefEqProofs only [go_sem, eq_self, Nat.reduceEqDiff, Nat.reduceBEq, Nat.reduceAdd, Nat.reduceLeDiff, reduceIte, reduceCtorEq, tysA, tyA, Ty.enc, Ty.encs])
      | (refine Run.condM ?_; simp -implicitDefEqProofs only [go_sem, eq_self, Nat.reduceEqDiff, Nat.reduceBEq, Nat.reduceAdd, Nat.reduceLeDiff, reduceIte, reduceCtorEq, tysA, tyA, Ty.enc, Ty.encs])))
          refine Run.retP g_typing_matcher_match (Heap.le_refl _) ?_
          simp -implicitDefEqProofs only [rs_typing_matcher_match, go_sem, eq_self, Nat.reduceEqDiff, Nat.reduceBEq, Nat.reduceAdd, Nat.reduceLeDiff, reduceIte, reduceCtorEq, tysA, tyA, Ty.enc, Ty.encs]
        · have hres : (Ty.mk kd q l).mt x (.mk kd' nm' l') = (true, ⟨x.found.set q true, x.types.set q (.mk kd' nm' l'), if (q : Int) + 1 > x.count then (q : Int) + 1 else x.count⟩) := by
            simp only [Ty.mt, hk, if_true, hr, if_false, Int.toNat_natCast, hgd, h, Bool.false_eq_true]
          have hwt : List.take (q * 3) (flatT x.types) ++ [AV.d (.int .i64 kd'), .d (.int .i64 nm'), .d (.sl (Ty.encs l'))] ++ List.drop (q * 3 + 3) (flatT x.types) = flatT (x.types.set q (.mk kd' nm' l')) :=
            flatR_set encA 3 encA_len x.types q (.mk kd' nm' l') hqt
          have hwb : List.take q (flatB x.found) ++ [AV.d (.bool true)] ++ List.drop (q + 1) (flatB x.found) = flatB (x.found.set q true) := wr_flatB x.found q hqf true
          have hw : IntKind.i64.wrap ((q : Int) + 1) = (q : Int) + 1 := wrap_pos (by omega) (by omega)
          rw [hres]
          (repeat (first
      | refine Run.seq ?_
      | refine Run.skip ?_
      | refine Run.block ?_
      | refine Run.blk ?_
      | (refine Run.exit rfl ?_)))
          refine Run.regT mixed ?_
          simp -implicitDefEqProofs only [hpM_i, hpM_j h3, hpM_k h3, e101, Nat.mul_one, hlef, hle, h3.jk, h3.jk.symm, h3.ij, h3.ij.symm, h3.ik, h3.ik.symm, go_sem, eq_self, Nat.reduceEqDiff, Nat.reduceBEq, Nat.reduceAdd, Nat.reduceLeDiff, reduceIte, reduceCtorEq, tysA, tyA, Ty.enc, Ty.encs]
          rw [hwb, hwt]
          (repeat (first
      | refine Run.seq ?_
      | refine Run.skip ?_
      | refine Run.block ?_
      | refine Run.blk ?_
      | (refine Run.exit rfl ?_)
      | (refine Run.reg mixed ?_; simp -implicitDefEqProofs only [hpM_i, h3.jk, h3.jk.symm, h3.ij, h3.ij.symm, h3.ik, h3.ik.symm, hw, mmA, go_sem, eq_self, Nat.reduceEqDiff, Nat.reduceBEq, Nat.reduceAdd, Nat.reduceLeDiff, reduceIte, reduceCtorEq, tysA, tyA, Ty.enc, Ty.encs])
      | (refine Run.condM ?_; simp -implicitDefEqProofs only [hpM_i, h3.jk, h3.jk.symm, h3.ij, h3.ij.symm, h3.ik, h3.ik.symm, hw, mmA, go_sem, eq_self, Nat.reduceEqDiff, Nat.reduceBEq, Nat.reduceAdd, Nat.reduceLeDiff, reduceIte, reduceCtorEq, tysA, tyA, Ty.enc, Ty.encs])))
          refine Run.retP g_typing_matcher_match (Heap.le_refl _) ?_
          simp -implicitDefEqProofs only [rs_typing_matcher_match, go_sem, eq_self, Nat.reduceEqDiff, Nat.reduceBEq, Nat.reduceAdd, Nat.reduceLeDiff, reduceIte, reduceCtorEq, tysA, tyA, Ty.enc, Ty.encs]
          exact hpM_set h3 _ _ _
    · have hk : ¬ kd = 4 := by simpa using h
      (repeat (first
      | refine Run.seq ?_
      | refine Run.skip ?_
      | refine Run.block ?_
      | refine Run.blk ?_
      | (refine Run.exit rfl ?_)))
      refine Run.reg mixed ?_
      cases h1 : (kd == kd')
      · have hres : (Ty.mk kd nm l).mt x (.mk kd' nm' l') = (false, x) := by
          have : ¬ kd = kd' := by simpa using h1
          simp [Ty.mt, hk, this, Ty.kind]
        rw [hres]
        simp -implicitDefEqProofs only [h1, go_sem, eq_self, Nat.reduceEqDiff, Nat.reduceBEq, Nat.reduceAdd, Nat.reduceLeDiff, reduceIte, reduceCtorEq, tysA, tyA, Ty.enc, Ty.encs]
        (repeat (first
      | refine Run.seq ?_
      | refine Run.skip ?_
      | refine Run.block ?_
      | refine Run.blk ?_
      | (refine Run.exit rfl ?_)
      | (refine Run.reg mixed ?_; simp -implicitDefEqProofs only [go_sem, eq_self, Nat.reduceEqDiff, Nat.reduceBEq, Nat.reduceAdd, Nat.reduceLeDiff, reduceIte, reduceCtorEq, tysA, tyA, Ty.enc, Ty.encs])
      | (refine Run.condM ?_; simp -implicitDefEqProofs only [go_sem, eq_self, Nat.reduceEqDiff, Nat.reduceBEq, Nat.reduceAdd, Nat.reduceLeDiff, reduceIte, reduceCtorEq, tysA, tyA, Ty.enc, Ty.encs])))
        refine Run.retP g_typing_matcher_match (Heap.le_refl _) ?_
        simp -implicitDefEqProofs only [rs_typing_matcher_match, go_sem, eq_self, Nat.reduceEqDiff, Nat.reduceBEq, Nat.reduceAdd, Nat.reduceLeDiff, reduceIte, reduceCtorEq, tysA, tyA, Ty.enc, Ty.encs]
      · cases h2 : (nm == nm')
        · have hres : (Ty.mk kd nm l).mt x (.mk kd' nm' l') = (false, x) := by
            have : ¬ nm = nm' := by simpa using h2
            simp [Ty.mt, hk, this, Ty.num]
          rw [hres]
          simp -implicitDefEqProofs only [h1, h2, go_sem, eq_self, Nat.reduceEqDiff, Nat.reduceBEq, Nat.reduceAdd, Nat.reduceLeDiff, reduceIte, reduceCtorEq, tysA, tyA, Ty.enc, Ty.encs]
          (repeat (first
      | refine Run.seq ?_
      | refine Run.skip ?_
      | refine Run.block ?_
      | refine Run.blk ?_
      | (refine Run.exit rfl ?_)
      | (refine Run.reg mixed ?_; simp -implicitDefEqProofs only [go_sem, eq_self, Nat.reduceEqDiff, Nat.reduceBEq, Nat.reduceAdd, Nat.reduceLeDiff, reduceIte, reduceCtorEq, tysA, tyA, Ty.enc, Ty.encs])
      | (refine Run.condM ?_; simp -implicitDefEqProofs only [go_sem, eq_self, Nat.reduceEqDiff, Nat.reduceBEq, Nat.reduceAdd, Nat.reduceLeDiff, reduceIte, reduceCtorEq, tysA, tyA, Ty.enc, Ty.encs])))
          refine Run.retP g_typing_matcher_match (Heap.le_refl _) ?_
          simp -implicitDefEqProofs only [rs_typing_matcher_match, go_sem, eq_self, Nat.reduceEqDiff, Nat.reduceBEq, Nat.reduceAdd, Nat.reduceLeDiff, reduceIte, reduceCtorEq, tysA, tyA, Ty.enc, Ty.encs]
        · have hres : (Ty.mk kd nm l).mt x (.mk kd' nm' l') = eqf (fun x t u => t.mt x u) x l l' := by
            have e1 : kd = kd' := by simpa using h1
            have e2 : nm = nm' := by simpa using h2
            by_cases hl : l.length = l'.length <;> simp [Ty.mt, hk, e1.symm, e2, Ty.kind, Ty.num, Ty.args, eqf, alls_mts, hl]
          rw [hres]
          simp -implicitDefEqProofs only [h1, h2, go_sem, eq_self, Nat.reduceEqDiff, Nat.reduceBEq, Nat.reduceAdd, Nat.reduceLeDiff, reduceIte, reduceCtorEq, tysA, tyA, Ty.enc, Ty.encs]
          refine XCall.mk rfl (EqualFunc_ok (fid := 21) (first := [.gp i 0]) (caps := []) (by kernel_rfl) rfl (fun x t u => t.mt x u) (hpM σ i j k) (MS.ok B) l l' (by omega)
            (fun y t u hy ht hu => ⟨mt_ok B t y u hy (by have := mem_sz hu; omega), ih t u y (by have := mem_sz ht; omega) (by omega) (by have := mem_sz hu; omega) hy⟩) x hx) ?_
          rintro v σ' ⟨rfl, rfl⟩
          simp -implicitDefEqProofs only [h1, h2, go_sem, eq_self, Nat.reduceEqDiff, Nat.reduceBEq, Nat.reduceAdd, Nat.reduceLeDiff, reduceIte, reduceCtorEq, tysA, tyA, Ty.enc, Ty.encs]
          (repeat (first
      | refine Run.seq ?_
      | refine Run.skip ?_
      | refine Run.block ?_
      | refine Run.blk ?_
      | (refine Run.exit rfl ?_)
      | (refine Run.reg mixed ?_; simp -implicitDefEqProofs only [go_sem, eq_self, Nat.reduceEqDiff, Nat.reduceBEq, Nat.reduceAdd, Nat.reduceLeDiff, reduceIte, reduceCtorEq, tysA, tyA, Ty.enc, Ty.encs])
      | (refine Run.condM ?_; simp -implicitDefEqProofs only [go_sem, eq_self, Nat.reduceEqDiff, Nat.reduceBEq, Nat.reduceAdd, Nat.reduceLeDiff, reduceIte, reduceCtorEq, tysA, tyA, Ty.enc, Ty.encs])))
          refine Run.retP g_typing_matcher_match (Heap.le_refl _) ?_
          simp -implicitDefEqProofs only [rs_typing_matcher_match, go_sem, eq_self, Nat.reduceEqDiff, Nat.reduceBEq, Nat.reduceAdd, Nat.reduceLeDiff, reduceIte, reduceCtorEq, tysA, tyA, Ty.enc, Ty.encs]
end Go.Ab
