/- Types: guards, sizes, validity. Conditions: none. -/
import Derived.Test.YtdbpmhfepfpldaaDoorXGh
import Derived.Test.YtdbpmhfepfpldaaDoorXCdT
set_option linter.unusedSimpArgs false
set_option linter.unusedVariables false
namespace Go.Ab
open Go.Proofs

structure Con where
  name : List UInt8
  args : List Ty
structure Dat where
  name : List UInt8
  vars : Int
  cons : List Con
def Con.enc (c : Con) : List DV := [.str c.name, .sl (Ty.encs c.args)]
def Dat.enc (d : Dat) : List DV := [.str d.name, .int .i64 d.vars, .sl (d.cons.map Con.enc)]
def dsA (l : List Dat) : AV := .d (.sl (l.map Dat.enc))
theorem cons_at {l : List Con} {i : Nat} {x : Con} (h : l[i]? = some x) : (l.map Con.enc)[i]? = some [.str x.name, .sl (Ty.encs x.args)] := by
  rw [List.getElem?_map, h]; rfl
theorem dats_at {l : List Dat} {i : Nat} {x : Dat} (h : l[i]? = some x) : (l.map Dat.enc)[i]? = some [.str x.name, .int .i64 x.vars, .sl (x.cons.map Con.enc)] := by
  rw [List.getElem?_map, h]; rfl

theorem ty_pos : ∀ t : Ty, 1 ≤ t.size
  | .mk _ _ _ => by simp [Ty.size]
theorem ty_len : ∀ l : List Ty, l.length ≤ Ty.sizes l
  | [] => by simp [Ty.sizes]
  | t :: l => by have := ty_len l; have := ty_pos t; simp only [List.length_cons, Ty.sizes]; omega
theorem sizes_take (l : List Ty) (i : Nat) : Ty.sizes (l.take i) ≤ Ty.sizes l := by
  have := sizes_append (l.take i) (l.drop i)
  rw [List.take_append_drop] at this; omega
theorem wrap_sub1' {a : Nat} (h : a ≤ 9000000000000000000) : IntKind.i64.wrap (((a + 1 : Nat) : Int) - 1) = (a : Int) := by
  rw [wrap_pos (by omega) (by omega)]; omega
def leftOf (n s : Nat) : Int := if s ≤ n then ((n - s : Nat) : Int) else -1

theorem Run.heapEq' {cx : Cx} {KK : AV → Heap → Prop} {k : List CI} {F : Fm} {L : Lm} {σ σ' : Heap} (e : σ' = σ) (h : Run cx KK k F L σ') : Run cx KK k F L σ := e ▸ h

theorem keep_typ_ok (j n : Nat) : n ≤ 1000000 → ∀ (t : Ty) (σ : Heap), σ.blk j = some [.d (.int .i64 n)] →
    ACalls Tryd.prog 43 [tyA t, .gp j 0] σ (fun v σ' => v = .d (.bool (decide (t.size ≤ n))) ∧ σ' = σ.setBlk j [.d (.int .i64 (leftOf n t.size))]) := by
  induction n using Nat.strongRecOn with
  | _ n ih =>
    intro hn t σ hb
    obtain ⟨kd, nm, l⟩ := t
    have hpos := ty_pos (.mk kd nm l)
    refine i_keep_typ (by simp) ?_
    rw [argF_2]
    cases n with
    | zero =>
      have hw : IntKind.i64.wrap (((0 : Nat) : Int) - 1) = -1 := by decide
      have hc : decide ((-1 : Int) < 0) = true := by decide
      (repeat' (first
      | refine Run.seq ?_
      | refine Run.skip ?_
      | refine Run.block ?_
      | refine Run.blk ?_
      | refine Run.scope ?_
      | refine Run.scp ?_
      | (refine Run.exit rfl ?_)
      | (refine Run.reg mixed ?_; simp -implicitDefEqProofs only [hb, hw, hc, rs_keep_typ, Bool.not_eq_true', Bool.not_eq_false', go_sem, eq_self, Nat.reduceEqDiff, Nat.reduceBEq, Nat.reduceAdd, Nat.reduceLeDiff, reduceIte, reduceCtorEq, tysA, tyA, Ty.enc, Ty.encs])
      | (refine Run.condM ?_; simp -implicitDefEqProofs only [hb, hw, hc, rs_keep_typ, Bool.not_eq_true', Bool.not_eq_false', go_sem, eq_self, Nat.reduceEqDiff, Nat.reduceBEq, Nat.reduceAdd, Nat.reduceLeDiff, reduceIte, reduceCtorEq, tysA, tyA, Ty.enc, Ty.encs])
      | (refine Run.retP g_keep_typ (Heap.le_refl _) ?_; simp -implicitDefEqProofs only [rs_keep_typ, hb, hw, hc, go_sem, eq_self, Nat.reduceEqDiff, Nat.reduceBEq, Nat.reduceAdd, Nat.reduceLeDiff, reduceIte, reduceCtorEq, tysA, tyA, Ty.enc, Ty.encs])
      | (refine xo_gs rfl (fun h => ?_) (fun h => ?_) <;> first | (cases h; done) | simp -implicitDefEqProofs only [hb, hw, hc, rs_keep_typ, Bool.not_eq_true', Bool.not_eq_false', go_sem, eq_self, Nat.reduceEqDiff, Nat.reduceBEq, Nat.reduceAdd, Nat.reduceLeDiff, reduceIte, reduceCtorEq, tysA, tyA, Ty.enc, Ty.encs])
      | (refine ⟨fun h => ?_, fun h => ?_⟩ <;> first | (cases h; done) | (simp -implicitDefEqProofs only [h]; done) | (try simp -implicitDefEqProofs only [h]))
      | fail))
      refine ⟨?_, ?_⟩
      · have : ¬ (Ty.mk kd nm l).size ≤ 0 := by omega
        simp [this]
      · rw [leftOf, if_neg (by omega)]
    | succ n =>
    have hw := wrap_sub1' (show n ≤ 9000000000000000000 by omega)
    have hc : decide ((n : Int) < 0) = false := by simp
    have hsz : (Ty.mk kd nm l).size = 1 + Ty.sizes l := rfl
    (repeat' (first
      | refine Run.seq ?_
      | refine Run.skip ?_
      | refine Run.block ?_
      | refine Run.blk ?_
      | refine Run.scope ?_
      | refine Run.scp ?_
      | (refine Run.exit rfl ?_)
      | (refine Run.reg mixed ?_; simp -implicitDefEqProofs only [hb, hw, hc, rs_keep_typ, Bool.not_eq_true', Bool.not_eq_false', go_sem, eq_self, Nat.reduceEqDiff, Nat.reduceBEq, Nat.reduceAdd, Nat.reduceLeDiff, reduceIte, reduceCtorEq, tysA, tyA, Ty.enc, Ty.encs])
      | (refine Run.condM ?_; simp -implicitDefEqProofs only [hb, hw, hc, rs_keep_typ, Bool.not_eq_true', Bool.not_eq_false', go_sem, eq_self, Nat.reduceEqDiff, Nat.reduceBEq, Nat.reduceAdd, Nat.reduceLeDiff, reduceIte, reduceCtorEq, tysA, tyA, Ty.enc, Ty.encs])
      | (refine xo_gs rfl (fun h => ?_) (fun h => ?_) <;> first | (cases h; done) | simp -implicitDefEqProofs only [hb, hw, hc, rs_keep_typ, Bool.not_eq_true', Bool.not_eq_false', go_sem, eq_self, Nat.reduceEqDiff, Nat.reduceBEq, Nat.reduceAdd, Nat.reduceLeDiff, reduceIte, reduceCtorEq, tysA, tyA, Ty.enc, Ty.encs])
      | (refine ⟨fun h => ?_, fun h => ?_⟩ <;> first | (cases h; done) | (simp -implicitDefEqProofs only [h]; done) | (try simp -implicitDefEqProofs only [h]))
      | fail))
    refine Run.loopA ?_
    refine Run.loopI ((fun (a1 : AV) (a2 : AV) => fun (y : Nat × Nat) => put 1 a1 (put 2 a2 (put 5 (.d (.int .i64 y.1)) U))) _ _) (fun _ => putL 2 [.d (.int .i64 kd), .d (.int .i64 nm), .d (.sl (Ty.encs l))] E) (fun y => σ.setBlk j [.d (.int .i64 (y.2 : Int))])
      (fun y => y.1 ≤ l.length ∧ y.2 + Ty.sizes (l.take y.1) = n) (fun y => l.length - y.1) ?_ (0, n) ⟨by simp, by simp [Ty.sizes]⟩
    rintro ⟨i, q⟩ ⟨hi, hq⟩ ih2
    simp only at hi hq
    have hil : i ≤ n := by
      have := ty_len (l.take i)
      simp at this; omega
    by_cases hlt : i < l.length
    · obtain ⟨t', ht⟩ := ex_at hlt
      have hs1 : Ty.sizes (l.take (i + 1)) = Ty.sizes (l.take i) + t'.size := by rw [take_snoc ht, sizes_snoc]
      have hs2 := sizes_take l (i + 1)
      obtain ⟨kd', nm', al⟩ := t'
      have he := encs_at ht
      have hw1 := wrap_succ (show i + 1 ≤ 9000000000000000000 by omega)
      have hcall := ih q (by omega) (by omega) (.mk kd' nm' al) (σ.setBlk j [.d (.int .i64 (q : Int))]) (by simp only [setBlk_get, if_true])
      by_cases hfit : (Ty.mk kd' nm' al).size ≤ q
      · have hlo : leftOf q (Ty.mk kd' nm' al).size = ((q - (Ty.mk kd' nm' al).size : Nat) : Int) := if_pos hfit
        rw [decide_eq_true hfit, hlo] at hcall
        (repeat' (first
      | refine Run.seq ?_
      | refine Run.skip ?_
      | refine Run.block ?_
      | refine Run.blk ?_
      | refine Run.scope ?_
      | refine Run.scp ?_
      | (refine Run.exit rfl ?_)
      | (refine Run.reg mixed ?_; simp -implicitDefEqProofs only [encs_len, lt_t hlt, he, hw1, rs_keep_typ, Bool.not_eq_true', Bool.not_eq_false', go_sem, eq_self, Nat.reduceEqDiff, Nat.reduceBEq, Nat.reduceAdd, Nat.reduceLeDiff, reduceIte, reduceCtorEq, tysA, tyA, Ty.enc, Ty.encs])
      | (refine Run.condM ?_; simp -implicitDefEqProofs only [encs_len, lt_t hlt, he, hw1, rs_keep_typ, Bool.not_eq_true', Bool.not_eq_false', go_sem, eq_self, Nat.reduceEqDiff, Nat.reduceBEq, Nat.reduceAdd, Nat.reduceLeDiff, reduceIte, reduceCtorEq, tysA, tyA, Ty.enc, Ty.encs])
      | (refine XCall.mk rfl hcall ?_; rintro _ _ ⟨rfl, rfl⟩; (try simp -implicitDefEqProofs only [encs_len, lt_t hlt, he, hw1, rs_keep_typ, Bool.not_eq_true', Bool.not_eq_false', go_sem, eq_self, Nat.reduceEqDiff, Nat.reduceBEq, Nat.reduceAdd, Nat.reduceLeDiff, reduceIte, reduceCtorEq, tysA, tyA, Ty.enc, Ty.encs]))
      | (refine xo_gs rfl (fun h => ?_) (fun h => ?_) <;> first | (cases h; done) | simp -implicitDefEqProofs only [encs_len, lt_t hlt, he, hw1, rs_keep_typ, Bool.not_eq_true', Bool.not_eq_false', go_sem, eq_self, Nat.reduceEqDiff, Nat.reduceBEq, Nat.reduceAdd, Nat.reduceLeDiff, reduceIte, reduceCtorEq, tysA, tyA, Ty.enc, Ty.encs])
      | (refine ⟨fun h => ?_, fun h => ?_⟩ <;> first | (cases h; done) | (simp -implicitDefEqProofs only [h]; done) | (try simp -implicitDefEqProofs only [h]))
      | fail))
        refine ih2 (i + 1, q - (Ty.mk kd' nm' al).size) ⟨by simp only; omega, by simp only; omega⟩ (by simp only; omega)
      · have hlo : leftOf q (Ty.mk kd' nm' al).size = -1 := if_neg hfit
        rw [decide_eq_false hfit, hlo] at hcall
        (repeat' (first
      | refine Run.seq ?_
      | refine Run.skip ?_
      | refine Run.block ?_
      | refine Run.blk ?_
      | refine Run.scope ?_
      | refine Run.scp ?_
      | (refine Run.exit rfl ?_)
      | (refine Run.reg mixed ?_; simp -implicitDefEqProofs only [encs_len, lt_t hlt, he, hw1, rs_keep_typ, Bool.not_eq_true', Bool.not_eq_false', go_sem, eq_self, Nat.reduceEqDiff, Nat.reduceBEq, Nat.reduceAdd, Nat.reduceLeDiff, reduceIte, reduceCtorEq, tysA, tyA, Ty.enc, Ty.encs])
      | (refine Run.condM ?_; simp -implicitDefEqProofs only [encs_len, lt_t hlt, he, hw1, rs_keep_typ, Bool.not_eq_true', Bool.not_eq_false', go_sem, eq_self, Nat.reduceEqDiff, Nat.reduceBEq, Nat.reduceAdd, Nat.reduceLeDiff, reduceIte, reduceCtorEq, tysA, tyA, Ty.enc, Ty.encs])
      | (refine XCall.mk rfl hcall ?_; rintro _ _ ⟨rfl, rfl⟩; (try simp -implicitDefEqProofs only [encs_len, lt_t hlt, he, hw1, rs_keep_typ, Bool.not_eq_true', Bool.not_eq_false', go_sem, eq_self, Nat.reduceEqDiff, Nat.reduceBEq, Nat.reduceAdd, Nat.reduceLeDiff, reduceIte, reduceCtorEq, tysA, tyA, Ty.enc, Ty.encs]))
      | (refine Run.retP g_keep_typ (Heap.le_refl _) ?_; simp -implicitDefEqProofs only [rs_keep_typ, encs_len, lt_t hlt, he, hw1, go_sem, eq_self, Nat.reduceEqDiff, Nat.reduceBEq, Nat.reduceAdd, Nat.reduceLeDiff, reduceIte, reduceCtorEq, tysA, tyA, Ty.enc, Ty.encs])
      | (refine xo_gs rfl (fun h => ?_) (fun h => ?_) <;> first | (cases h; done) | simp -implicitDefEqProofs only [encs_len, lt_t hlt, he, hw1, rs_keep_typ, Bool.not_eq_true', Bool.not_eq_false', go_sem, eq_self, Nat.reduceEqDiff, Nat.reduceBEq, Nat.reduceAdd, Nat.reduceLeDiff, reduceIte, reduceCtorEq, tysA, tyA, Ty.enc, Ty.encs])
      | (refine ⟨fun h => ?_, fun h => ?_⟩ <;> first | (cases h; done) | (simp -implicitDefEqProofs only [h]; done) | (try simp -implicitDefEqProofs only [h]))
      | fail))
        refine ⟨?_, ?_⟩
        · have : ¬ (Ty.mk kd nm l).size ≤ n + 1 := by rw [hsz]; omega
          simp [this]
        · rw [leftOf, if_neg (by rw [hsz]; omega)]
    · (repeat' (first
      | refine Run.seq ?_
      | refine Run.skip ?_
      | refine Run.block ?_
      | refine Run.blk ?_
      | refine Run.scope ?_
      | refine Run.scp ?_
      | (refine Run.exit rfl ?_)
      | (refine Run.reg mixed ?_; simp -implicitDefEqProofs only [encs_len, lt_f hlt, rs_keep_typ, Bool.not_eq_true', Bool.not_eq_false', go_sem, eq_self, Nat.reduceEqDiff, Nat.reduceBEq, Nat.reduceAdd, Nat.reduceLeDiff, reduceIte, reduceCtorEq, tysA, tyA, Ty.enc, Ty.encs])
      | (refine Run.condM ?_; simp -implicitDefEqProofs only [encs_len, lt_f hlt, rs_keep_typ, Bool.not_eq_true', Bool.not_eq_false', go_sem, eq_self, Nat.reduceEqDiff, Nat.reduceBEq, Nat.reduceAdd, Nat.reduceLeDiff, reduceIte, reduceCtorEq, tysA, tyA, Ty.enc, Ty.encs])
      | (refine Run.retP g_keep_typ (Heap.le_refl _) ?_; simp -implicitDefEqProofs only [rs_keep_typ, encs_len, lt_f hlt, go_sem, eq_self, Nat.reduceEqDiff, Nat.reduceBEq, Nat.reduceAdd, Nat.reduceLeDiff, reduceIte, reduceCtorEq, tysA, tyA, Ty.enc, Ty.encs])
      | (refine xo_gs rfl (fun h => ?_) (fun h => ?_) <;> first | (cases h; done) | simp -implicitDefEqProofs only [encs_len, lt_f hlt, rs_keep_typ, Bool.not_eq_true', Bool.not_eq_false', go_sem, eq_self, Nat.reduceEqDiff, Nat.reduceBEq, Nat.reduceAdd, Nat.reduceLeDiff, reduceIte, reduceCtorEq, tysA, tyA, Ty.enc, Ty.encs])
      | (refine ⟨fun h => ?_, fun h => ?_⟩ <;> first | (cases h; done) | (simp -implicitDefEqProofs only [h]; done) | (try simp -implicitDefEqProofs only [h]))
      | fail))
      rw [List.take_of_length_le (by omega)] at hq
      refine ⟨?_, ?_⟩
      · have : (Ty.mk kd nm l).size ≤ n + 1 := by rw [hsz]; omega
        simp [this]
      · rw [leftOf, if_pos (by rw [hsz]; omega)]
        congr 4
        rw [hsz]; omega

/-- A fresh block of a known type. -/
theorem alt_le {σ : Heap} {i : Nat} {z : List AV} {x : Nat × TypeId} (h : σ.blk i = none ∧ σ.bt i = none) : σ.le ((σ.setBlk i z).setBt i x) ∧ ((σ.setBlk i z).setBt i x).blk i = some z :=
  ⟨⟨fun j cs hj => by
      have hne : j ≠ i := fun e => by rw [e, h.1] at hj; cases hj
      simp [Heap.setBt, Heap.setBlk, hne, hj], fun _ h => h, rfl, fun j y hj => by
      have hne : j ≠ i := fun e => by rw [e, h.2] at hj; cases hj
      simp [Heap.setBt, Heap.setBlk, hne, hj]⟩, by simp [Heap.setBt, Heap.setBlk]⟩
theorem le_set {σ σ1 : Heap} {i : Nat} {cs : List AV} (h : σ.le σ1) (hn : σ.blk i = none) : σ.le (σ1.setBlk i cs) :=
  ⟨fun j ds hj => by
    have hne : j ≠ i := fun e => by rw [e, hn] at hj; cases hj
    rw [setBlk_get, if_neg hne]; exact h.blk j ds hj, h.tok, h.gt, h.bt⟩

theorem keep_Type_ok (t : Ty) (σ : Heap) : ACalls Tryd.prog 12 [tyA t] σ (fun v σ' => v = .d (.bool (decide (t.size ≤ 250))) ∧ σ' = σ) := by
  obtain ⟨kd, nm, l⟩ := t
  refine i_keep_Type (by simp) ?_
  rw [argF_1]
  (repeat' (first
      | refine Run.seq ?_
      | refine Run.skip ?_
      | refine Run.block ?_
      | refine Run.blk ?_
      | refine Run.scope ?_
      | refine Run.scp ?_
      | (refine Run.exit rfl ?_)
      | (refine Run.reg mixed ?_; simp -implicitDefEqProofs only [rs_keep_Type, Bool.not_eq_true', Bool.not_eq_false', go_sem, eq_self, Nat.reduceEqDiff, Nat.reduceBEq, Nat.reduceAdd, Nat.reduceLeDiff, reduceIte, reduceCtorEq, tysA, tyA, Ty.enc, Ty.encs])
      | (refine Run.condM ?_; simp -implicitDefEqProofs only [rs_keep_Type, Bool.not_eq_true', Bool.not_eq_false', go_sem, eq_self, Nat.reduceEqDiff, Nat.reduceBEq, Nat.reduceAdd, Nat.reduceLeDiff, reduceIte, reduceCtorEq, tysA, tyA, Ty.enc, Ty.encs])
      | (refine xo_gs rfl (fun h => ?_) (fun h => ?_) <;> first | (cases h; done) | simp -implicitDefEqProofs only [rs_keep_Type, Bool.not_eq_true', Bool.not_eq_false', go_sem, eq_self, Nat.reduceEqDiff, Nat.reduceBEq, Nat.reduceAdd, Nat.reduceLeDiff, reduceIte, reduceCtorEq, tysA, tyA, Ty.enc, Ty.encs])
      | (refine ⟨fun h => ?_, fun h => ?_⟩ <;> first | (cases h; done) | (simp -implicitDefEqProofs only [h]; done) | (try simp -implicitDefEqProofs only [h]))
      | fail))
  intro j hj
  obtain ⟨hle, hb⟩ := alt_le (z := [.d (.int .i64 0)]) (x := ([AV.d (.int .i64 0)].length, 3)) hj
  simp only [List.length_cons, List.length_nil, Nat.zero_add] at hle hb
  generalize (σ.setBlk j [.d (.int .i64 0)]).setBt j (1, 3) = σ1 at hle hb ⊢
  simp -implicitDefEqProofs only [hb, go_sem, eq_self, Nat.reduceEqDiff, Nat.reduceBEq, Nat.reduceAdd, Nat.reduceLeDiff, reduceIte, reduceCtorEq, tysA, tyA, Ty.enc, Ty.encs]
  (repeat' (first
      | refine Run.seq ?_
      | refine Run.skip ?_
      | refine Run.block ?_
      | refine Run.blk ?_
      | refine Run.scope ?_
      | refine Run.scp ?_
      | (refine Run.exit rfl ?_)
      | (refine Run.reg mixed ?_; simp -implicitDefEqProofs only [hb, rs_keep_Type, Bool.not_eq_true', Bool.not_eq_false', go_sem, eq_self, Nat.reduceEqDiff, Nat.reduceBEq, Nat.reduceAdd, Nat.reduceLeDiff, reduceIte, reduceCtorEq, tysA, tyA, Ty.enc, Ty.encs])
      | (refine Run.condM ?_; simp -implicitDefEqProofs only [hb, rs_keep_Type, Bool.not_eq_true', Bool.not_eq_false', go_sem, eq_self, Nat.reduceEqDiff, Nat.reduceBEq, Nat.reduceAdd, Nat.reduceLeDiff, reduceIte, reduceCtorEq, tysA, tyA, Ty.enc, Ty.encs])
      | (refine XCall.mk rfl (keep_typ_ok j 250 (by omega) (.mk kd nm l) (σ1.setBlk j [.d (.int .i64 250)]) (by simp only [setBlk_get, if_true]; rfl)) ?_; rintro _ _ ⟨rfl, rfl⟩; (try simp -implicitDefEqProofs only [hb, rs_keep_Type, Bool.not_eq_true', Bool.not_eq_false', go_sem, eq_self, Nat.reduceEqDiff, Nat.reduceBEq, Nat.reduceAdd, Nat.reduceLeDiff, reduceIte, reduceCtorEq, tysA, tyA, Ty.enc, Ty.encs]))
      | (refine Run.retP g_keep_Type (σ2 := σ) (le_set hle hj.1) ?_; (try simp -implicitDefEqProofs only [hb, rs_keep_Type, Bool.not_eq_true', Bool.not_eq_false', go_sem, eq_self, Nat.reduceEqDiff, Nat.reduceBEq, Nat.reduceAdd, Nat.reduceLeDiff, reduceIte, reduceCtorEq, tysA, tyA, Ty.enc, Ty.encs]))
      | (refine xo_gs rfl (fun h => ?_) (fun h => ?_) <;> first | (cases h; done) | simp -implicitDefEqProofs only [hb, rs_keep_Type, Bool.not_eq_true', Bool.not_eq_false', go_sem, eq_self, Nat.reduceEqDiff, Nat.reduceBEq, Nat.reduceAdd, Nat.reduceLeDiff, reduceIte, reduceCtorEq, tysA, tyA, Ty.enc, Ty.encs])
      | (refine ⟨fun h => ?_, fun h => ?_⟩ <;> first | (cases h; done) | (simp -implicitDefEqProofs only [h]; done) | (try simp -implicitDefEqProofs only [h]))
      | fail))

theorem r6_Size_ok : ∀ (n : Nat) (t : Ty) (σ : Heap), t.size ≤ n → n ≤ 1000000 → ACalls Tryd.prog 45 [tyA t] σ (fun v σ' => v = .d (.int .i64 t.size) ∧ σ' = σ) := by
  intro n
  induction n using Nat.strongRecOn with
  | _ n ih =>
    intro t σ hn hm
    obtain ⟨kd, nm, l⟩ := t
    refine i_r6_Size (by simp) ?_
    rw [argF_1]
    have hsz : (Ty.mk kd nm l).size = 1 + Ty.sizes l := rfl
    (repeat' (first
      | refine Run.seq ?_
      | refine Run.skip ?_
      | refine Run.block ?_
      | refine Run.blk ?_
      | refine Run.scope ?_
      | refine Run.scp ?_
      | (refine Run.exit rfl ?_)
      | (refine Run.reg mixed ?_; simp -implicitDefEqProofs only [rs_r6_Size, Bool.not_eq_true', Bool.not_eq_false', go_sem, eq_self, Nat.reduceEqDiff, Nat.reduceBEq, Nat.reduceAdd, Nat.reduceLeDiff, reduceIte, reduceCtorEq, tysA, tyA, Ty.enc, Ty.encs])
      | (refine Run.condM ?_; simp -implicitDefEqProofs only [rs_r6_Size, Bool.not_eq_true', Bool.not_eq_false', go_sem, eq_self, Nat.reduceEqDiff, Nat.reduceBEq, Nat.reduceAdd, Nat.reduceLeDiff, reduceIte, reduceCtorEq, tysA, tyA, Ty.enc, Ty.encs])
      | (refine xo_gs rfl (fun h => ?_) (fun h => ?_) <;> first | (cases h; done) | simp -implicitDefEqProofs only [rs_r6_Size, Bool.not_eq_true', Bool.not_eq_false', go_sem, eq_self, Nat.reduceEqDiff, Nat.reduceBEq, Nat.reduceAdd, Nat.reduceLeDiff, reduceIte, reduceCtorEq, tysA, tyA, Ty.enc, Ty.encs])
      | (refine ⟨fun h => ?_, fun h => ?_⟩ <;> first | (cases h; done) | (simp -implicitDefEqProofs only [h]; done) | (try simp -implicitDefEqProofs only [h]))
      | fail))
    refine Run.loopA ?_
    refine Run.loopI ((fun (a1 : AV) => fun (y : Nat × Nat) => put 1 a1 (put 3 (.d (.int .i64 (y.2 : Int))) (put 4 (.d (.int .i64 y.1)) U))) _) (fun _ => putL 1 [.d (.int .i64 kd), .d (.int .i64 nm), .d (.sl (Ty.encs l))] E) (fun _ => σ)
      (fun y => y.1 ≤ l.length ∧ y.2 = 1 + Ty.sizes (l.take y.1)) (fun y => l.length - y.1) ?_ (0, 1) ⟨by simp, by simp [Ty.sizes]⟩
    rintro ⟨i, q⟩ ⟨hi, hq⟩ ih2
    simp only at hi hq
    have hil : i ≤ n := by
      have := ty_len (l.take i)
      have := sizes_take l i
      simp at *; omega
    by_cases hlt : i < l.length
    · obtain ⟨t', ht⟩ := ex_at hlt
      have hs1 : Ty.sizes (l.take (i + 1)) = Ty.sizes (l.take i) + t'.size := by rw [take_snoc ht, sizes_snoc]
      have hs2 := sizes_take l (i + 1)
      obtain ⟨kd', nm', al⟩ := t'
      have he := encs_at ht
      have hw1 := wrap_succ (show i + 1 ≤ 9000000000000000000 by omega)
      have hw2 := wrap_add (show q + (Ty.mk kd' nm' al).size ≤ 9000000000000000000 by omega)
      have hcall := ih ((Ty.mk kd' nm' al).size) (by omega) (.mk kd' nm' al) σ (Nat.le_refl _) (by omega)
      (repeat' (first
      | refine Run.seq ?_
      | refine Run.skip ?_
      | refine Run.block ?_
      | refine Run.blk ?_
      | refine Run.scope ?_
      | refine Run.scp ?_
      | (refine Run.exit rfl ?_)
      | (refine Run.reg mixed ?_; simp -implicitDefEqProofs only [encs_len, lt_t hlt, he, hw1, hw2, rs_r6_Size, Bool.not_eq_true', Bool.not_eq_false', go_sem, eq_self, Nat.reduceEqDiff, Nat.reduceBEq, Nat.reduceAdd, Nat.reduceLeDiff, reduceIte, reduceCtorEq, tysA, tyA, Ty.enc, Ty.encs])
      | (refine Run.condM ?_; simp -implicitDefEqProofs only [encs_len, lt_t hlt, he, hw1, hw2, rs_r6_Size, Bool.not_eq_true', Bool.not_eq_false', go_sem, eq_self, Nat.reduceEqDiff, Nat.reduceBEq, Nat.reduceAdd, Nat.reduceLeDiff, reduceIte, reduceCtorEq, tysA, tyA, Ty.enc, Ty.encs])
      | (refine XCall.det (hcall) ?_; simp -implicitDefEqProofs only [encs_len, lt_t hlt, he, hw1, hw2, rs_r6_Size, Bool.not_eq_true', Bool.not_eq_false', go_sem, eq_self, Nat.reduceEqDiff, Nat.reduceBEq, Nat.reduceAdd, Nat.reduceLeDiff, reduceIte, reduceCtorEq, tysA, tyA, Ty.enc, Ty.encs])
      | (refine xo_gs rfl (fun h => ?_) (fun h => ?_) <;> first | (cases h; done) | simp -implicitDefEqProofs only [encs_len, lt_t hlt, he, hw1, hw2, rs_r6_Size, Bool.not_eq_true', Bool.not_eq_false', go_sem, eq_self, Nat.reduceEqDiff, Nat.reduceBEq, Nat.reduceAdd, Nat.reduceLeDiff, reduceIte, reduceCtorEq, tysA, tyA, Ty.enc, Ty.encs])
      | (refine ⟨fun h => ?_, fun h => ?_⟩ <;> first | (cases h; done) | (simp -implicitDefEqProofs only [h]; done) | (try simp -implicitDefEqProofs only [h]))
      | fail))
      exact ih2 (i + 1, q + (Ty.mk kd' nm' al).size) ⟨by simp only; omega, by simp only; omega⟩ (by simp only; omega)
    · (repeat' (first
      | refine Run.seq ?_
      | refine Run.skip ?_
      | refine Run.block ?_
      | refine Run.blk ?_
      | refine Run.scope ?_
      | refine Run.scp ?_
      | (refine Run.exit rfl ?_)
      | (refine Run.reg mixed ?_; simp -implicitDefEqProofs only [encs_len, lt_f hlt, rs_r6_Size, Bool.not_eq_true', Bool.not_eq_false', go_sem, eq_self, Nat.reduceEqDiff, Nat.reduceBEq, Nat.reduceAdd, Nat.reduceLeDiff, reduceIte, reduceCtorEq, tysA, tyA, Ty.enc, Ty.encs])
      | (refine Run.condM ?_; simp -implicitDefEqProofs only [encs_len, lt_f hlt, rs_r6_Size, Bool.not_eq_true', Bool.not_eq_false', go_sem, eq_self, Nat.reduceEqDiff, Nat.reduceBEq, Nat.reduceAdd, Nat.reduceLeDiff, reduceIte, reduceCtorEq, tysA, tyA, Ty.enc, Ty.encs])
      | (refine Run.retP g_r6_Size (Heap.le_refl _) ?_; simp -implicitDefEqProofs only [rs_r6_Size, encs_len, lt_f hlt, go_sem, eq_self, Nat.reduceEqDiff, Nat.reduceBEq, Nat.reduceAdd, Nat.reduceLeDiff, reduceIte, reduceCtorEq, tysA, tyA, Ty.enc, Ty.encs])
      | (refine xo_gs rfl (fun h => ?_) (fun h => ?_) <;> first | (cases h; done) | simp -implicitDefEqProofs only [encs_len, lt_f hlt, rs_r6_Size, Bool.not_eq_true', Bool.not_eq_false', go_sem, eq_self, Nat.reduceEqDiff, Nat.reduceBEq, Nat.reduceAdd, Nat.reduceLeDiff, reduceIte, reduceCtorEq, tysA, tyA, Ty.enc, Ty.encs])
      | (refine ⟨fun h => ?_, fun h => ?_⟩ <;> first | (cases h; done) | (simp -implicitDefEqProofs only [h]; done) | (try simp -implicitDefEqProofs only [h]))
      | fail))
      rw [List.take_of_length_le (by omega)] at hq
      rw [hsz, hq]
end Go.Ab
