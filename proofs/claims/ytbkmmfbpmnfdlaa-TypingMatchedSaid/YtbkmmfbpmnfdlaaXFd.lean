/- typing.Fields. Conditions: the type and the data types keep to their guards. -/
import Derived.Test.YtbkmmfbpmnfdlaaXDa
set_option linter.unusedSimpArgs false
set_option linter.unusedVariables false
namespace Go.Ab
open Go.Proofs

mutual
theorem subst_size (args : List Ty) (M : Nat) (hM : 1 ≤ M) (ha : ∀ t ∈ args, t.size ≤ M) : ∀ t : Ty, (t.subst args).size ≤ t.size * M
  | .mk k n l => by
    simp only [Ty.subst, Ty.size]
    split
    · rename_i h
      have hlt : n.toNat < args.length := by omega
      have : args.getD n.toNat (.mk 0 0 []) ∈ args := by rw [List.getD_eq_getElem?_getD, List.getElem?_eq_getElem hlt]; simp
      have := ha _ this
      rw [Nat.add_mul]
      omega
    · simp only [Ty.size]
      have := substs_size args M hM ha l
      rw [Nat.add_mul]
      omega
theorem substs_size (args : List Ty) (M : Nat) (hM : 1 ≤ M) (ha : ∀ t ∈ args, t.size ≤ M) : ∀ l : List Ty, Ty.sizes (Ty.substs args l) ≤ Ty.sizes l * M
  | [] => by simp [Ty.substs, Ty.sizes]
  | t :: l => by
    have := subst_size args M hM ha t
    have := substs_size args M hM ha l
    simp only [Ty.substs, Ty.sizes, Nat.add_mul]
    omega
end

theorem mem_size {l : List Ty} {t : Ty} (h : t ∈ l) : t.size ≤ Ty.sizes l := by
  obtain ⟨i, hi⟩ := List.getElem?_of_mem h
  have := sizes_get hi
  omega

theorem substs_get (args : List Ty) : ∀ (l : List Ty) (i : Nat), (Ty.substs args l)[i]? = (l[i]?).map (Ty.subst args)
  | [], i => by simp [Ty.substs]
  | t :: l, 0 => by simp [Ty.substs]
  | t :: l, i + 1 => by simp [Ty.substs, substs_get args l i]

/-- Does every type in the list keep to the bound of 200? -/
def small (l : List Ty) : Bool := l.all fun t => decide (t.size ≤ 200)

/-- The field types of constructor c, or none. -/
def fieldsOf (data : List Dat) (t : Ty) (c : Int) : Option (List Ty) :=
  if t.kind = 5 ∧ 0 ≤ t.num ∧ t.num < data.length then
    (data[t.num.toNat]?).bind fun d => if (t.args.length : Int) = d.vars ∧ 0 ≤ c ∧ c < d.cons.length then
      (d.cons[c.toNat]?).bind fun k => if small (Ty.substs t.args k.args) = true then some (Ty.substs t.args k.args) else none
    else none
  else none

def fieldsA (o : Option (List Ty)) : AV := .tup [tysA (o.getD []), .d (.bool o.isSome)]

def zsA (n : Nat) : List AV := List.replicate n (.d (.int .i64 0))

theorem zs_flat : ∀ n : Nat, (List.replicate n [AV.d (.int .i64 0)]).flatten = zsA n
  | 0 => rfl
  | n + 1 => by rw [List.replicate_succ, List.flatten_cons, zs_flat n, zsA, zsA, List.replicate_succ]; rfl

theorem szs_put (args : List Ty) (i : Nat) (t : Ty) (h : args[i]? = some t) (m : Nat) :
    wr (szsA (args.take i) ++ zsA (m + 1)) (i * 1) [.d (.int .i64 (t.size : Int))] = szsA (args.take (i + 1)) ++ zsA m := by
  have hlt : i < args.length := (List.getElem?_eq_some_iff.1 h).1
  have hl : (szsA (args.take i)).length = i := by simp [szsA]; omega
  rw [wr, Nat.mul_one, List.take_left' hl, take_snoc h]
  have : i + [AV.d (DV.int .i64 (t.size : Int))].length = i + 1 := rfl
  rw [this, ← List.drop_drop, List.drop_left' hl]
  simp [szsA, zsA, List.replicate_succ]

theorem typing_Fields_sizes (l : List Ty) (kd nm : Int) (hl : Ty.sizes l ≤ 250) (c : DV) (cs : List DV) (σ : Heap) (j : Nat) (K : AV → Heap → Prop) {k : List CI}
    (hk : ∀ F L, F 2 = .d c → F 4 = .lp 4 0 → F 8 = .lp 8 0 → F 9 = .ms j l.length → L = putL 4 [.d (.int .i64 kd), .d (.int .i64 nm), tysA l] (putL 8 (cs.map AV.d) E) → Run x_typing_Fields K k F L (σ.setBlk j (szsA l))) :
    ∀ (m i : Nat), m + i = l.length → Run x_typing_Fields K (.again c_typing_Fields_L0 :: .blk 0 :: k)
      (put 2 (.d c) (put 4 (.lp 4 0) (put 8 (.lp 8 0) (put 9 (.ms j l.length) (put 59 (tysA l) (put 60 (.d (.int .i64 l.length)) (put 61 (.d (.int .i64 i)) U)))))))
      (putL 4 [.d (.int .i64 kd), .d (.int .i64 nm), tysA l] (putL 8 (cs.map AV.d) E)) (σ.setBlk j (szsA (l.take i) ++ zsA m)) := by
  intro m
  have hll := len_sizes l
  induction m with
  | zero =>
    intro i hi
    refine Run.again ?_
    (repeat (first
      | refine Run.seq ?_
      | refine Run.skip ?_
      | refine Run.block ?_
      | refine Run.blk ?_
      | (refine Run.exit rfl ?_)
      | (refine Run.reg mixed ?_; simp -implicitDefEqProofs only [go_sem, eq_self, Nat.reduceEqDiff, Nat.reduceBEq, Nat.reduceAdd, Nat.reduceLeDiff, reduceIte, reduceCtorEq, tysA, tyA, Ty.enc, Ty.encs])
      | (refine Run.condM ?_; simp -implicitDefEqProofs only [go_sem, eq_self, Nat.reduceEqDiff, Nat.reduceBEq, Nat.reduceAdd, Nat.reduceLeDiff, reduceIte, reduceCtorEq, tysA, tyA, Ty.enc, Ty.encs])))
    refine ⟨fun h => ?_, fun h => ?_⟩
    · simp at h; omega
    · (repeat (first
      | refine Run.seq ?_
      | refine Run.skip ?_
      | refine Run.block ?_
      | refine Run.blk ?_
      | (refine Run.exit rfl ?_)
      | (refine Run.reg mixed ?_; simp -implicitDefEqProofs only [go_sem, eq_self, Nat.reduceEqDiff, Nat.reduceBEq, Nat.reduceAdd, Nat.reduceLeDiff, reduceIte, reduceCtorEq, tysA, tyA, Ty.enc, Ty.encs])
      | (refine Run.condM ?_; simp -implicitDefEqProofs only [go_sem, eq_self, Nat.reduceEqDiff, Nat.reduceBEq, Nat.reduceAdd, Nat.reduceLeDiff, reduceIte, reduceCtorEq, tysA, tyA, Ty.enc, Ty.encs])))
      have : l.take i = l := List.take_of_length_le (by omega)
      rw [this]
      have e : szsA l ++ zsA 0 = szsA l := by simp [zsA]
      rw [e]
      exact hk _ _ rfl rfl rfl rfl rfl
  | succ m ihm =>
    intro i hi
    have hlt : i < l.length := by omega
    obtain ⟨t, ht⟩ : ∃ t, l[i]? = some t := ⟨l[i], by simp [hlt]⟩
    have hsz := sizes_get ht
    have hput := szs_put l i t ht m
    simp only [wr, List.length_cons, List.length_nil, Nat.zero_add] at hput
    have hfit : i * 1 + 1 ≤ (szsA (l.take i) ++ zsA (m + 1)).length := by simp [szsA, zsA]; omega
    have hii : (i : Int) < (l.length : Int) := by omega
    obtain ⟨kd', nm', al⟩ := t
    have he := encs_at ht
    refine Run.again ?_
    (repeat (first
      | refine Run.seq ?_
      | refine Run.skip ?_
      | refine Run.block ?_
      | refine Run.blk ?_
      | (refine Run.exit rfl ?_)
      | (refine Run.reg mixed ?_; simp -implicitDefEqProofs only [go_sem, eq_self, Nat.reduceEqDiff, Nat.reduceBEq, Nat.reduceAdd, Nat.reduceLeDiff, reduceIte, reduceCtorEq, tysA, tyA, Ty.enc, Ty.encs])
      | (refine Run.condM ?_; simp -implicitDefEqProofs only [go_sem, eq_self, Nat.reduceEqDiff, Nat.reduceBEq, Nat.reduceAdd, Nat.reduceLeDiff, reduceIte, reduceCtorEq, tysA, tyA, Ty.enc, Ty.encs])))
    refine ⟨fun h => ?_, fun h => ?_⟩
    · (repeat (first
      | refine Run.seq ?_
      | refine Run.skip ?_
      | refine Run.block ?_
      | refine Run.blk ?_
      | (refine Run.exit rfl ?_)
      | (refine Run.reg mixed ?_; simp -implicitDefEqProofs only [go_sem, eq_self, Nat.reduceEqDiff, Nat.reduceBEq, Nat.reduceAdd, Nat.reduceLeDiff, reduceIte, reduceCtorEq, tysA, tyA, Ty.enc, Ty.encs])
      | (refine Run.condM ?_; simp -implicitDefEqProofs only [go_sem, eq_self, Nat.reduceEqDiff, Nat.reduceBEq, Nat.reduceAdd, Nat.reduceLeDiff, reduceIte, reduceCtorEq, tysA, tyA, Ty.enc, Ty.encs])))
      simp -implicitDefEqProofs only [he, go_sem, eq_self, Nat.reduceEqDiff, Nat.reduceBEq, Nat.reduceAdd, Nat.reduceLeDiff, reduceIte, reduceCtorEq, tysA, tyA, Ty.enc, Ty.encs]
      (repeat (first
      | refine Run.seq ?_
      | refine Run.skip ?_
      | refine Run.block ?_
      | refine Run.blk ?_
      | (refine Run.exit rfl ?_)
      | (refine Run.reg mixed ?_; simp -implicitDefEqProofs only [go_sem, eq_self, Nat.reduceEqDiff, Nat.reduceBEq, Nat.reduceAdd, Nat.reduceLeDiff, reduceIte, reduceCtorEq, tysA, tyA, Ty.enc, Ty.encs])
      | (refine Run.condM ?_; simp -implicitDefEqProofs only [go_sem, eq_self, Nat.reduceEqDiff, Nat.reduceBEq, Nat.reduceAdd, Nat.reduceLeDiff, reduceIte, reduceCtorEq, tysA, tyA, Ty.enc, Ty.encs])))
      refine XCall.mk rfl (typing_Size_ok 250 (.mk kd' nm' al) _ (by omega) (by omega)) ?_
      rintro v σ' ⟨rfl, rfl⟩
      simp -implicitDefEqProofs only [hii, go_sem, eq_self, Nat.reduceEqDiff, Nat.reduceBEq, Nat.reduceAdd, Nat.reduceLeDiff, reduceIte, reduceCtorEq, tysA, tyA, Ty.enc, Ty.encs]
      rw [if_pos hfit]
      simp -implicitDefEqProofs only [hput, go_sem, eq_self, Nat.reduceEqDiff, Nat.reduceBEq, Nat.reduceAdd, Nat.reduceLeDiff, reduceIte, reduceCtorEq, tysA, tyA, Ty.enc, Ty.encs]
      (repeat (first
      | refine Run.seq ?_
      | refine Run.skip ?_
      | refine Run.block ?_
      | refine Run.blk ?_
      | (refine Run.exit rfl ?_)
      | (refine Run.reg mixed ?_; simp -implicitDefEqProofs only [go_sem, eq_self, Nat.reduceEqDiff, Nat.reduceBEq, Nat.reduceAdd, Nat.reduceLeDiff, reduceIte, reduceCtorEq, tysA, tyA, Ty.enc, Ty.encs])
      | (refine Run.condM ?_; simp -implicitDefEqProofs only [go_sem, eq_self, Nat.reduceEqDiff, Nat.reduceBEq, Nat.reduceAdd, Nat.reduceLeDiff, reduceIte, reduceCtorEq, tysA, tyA, Ty.enc, Ty.encs])))
      rw [wrap_succ (by omega)]
      exact ihm (i + 1) (by omega)
    · simp at h; omega
end Go.Ab
