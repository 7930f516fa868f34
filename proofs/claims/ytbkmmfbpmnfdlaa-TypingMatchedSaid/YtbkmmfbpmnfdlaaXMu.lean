/- Match. Conditions: the types are small. -/
import Derived.Test.YtbkmmfbpmnfdlaaXMt
import Derived.Test.YtbkmmfbpmnfdlaaXFd
set_option linter.unusedSimpArgs false
set_option linter.unusedVariables false
namespace Go.Ab
open Go.Proofs

def ms0 : MS := ⟨List.replicate 101 false, List.replicate 101 (.mk 0 0 []), 0⟩
def MS.at (x : MS) (i : Nat) : Ty := if x.found.getD i false then x.types.getD i (.mk 0 0 []) else .mk 3 0 []
def MS.out (x : MS) : List Ty := (List.range x.count.toNat).map x.at
def matchOf (t u : Ty) : Option (List Ty) := if (t.mt ms0 u).1 then some (t.mt ms0 u).2.out else none
def matchA (o : Option (List Ty)) : AV := .tup [.d (.sl (Ty.encs (o.getD []))), .d (.bool o.isSome)]

theorem ms0_ok (B : Nat) (hB : 1 ≤ B) : ms0.ok B :=
  ⟨by simp [ms0], by simp [ms0], by simp [ms0], fun t ht => by
    simp only [ms0, List.mem_replicate] at ht
    rw [ht.2]; simpa [Ty.size, Ty.sizes] using hB⟩

theorem flatB_rep (n : Nat) : (List.replicate n [AV.d (.bool false)]).flatten = flatB (List.replicate n false) := by
  induction n with
  | zero => rfl
  | succ n ih => simp only [List.replicate_succ, List.flatten_cons, ih, flatB, List.map_cons, List.cons_append, List.nil_append]
theorem plains_app : ∀ l m : List AV, AV.plains (l ++ m) = AV.plains l ++ AV.plains m
  | [], m => by simp [AV.plains]
  | v :: l, m => by simp [AV.plains, plains_app l m]
theorem flatT_rep (n : Nat) : flatT (List.replicate n (.mk 0 0 [])) = AV.plains (List.replicate n [AV.d (.int .i64 0), .d (.int .i64 0), .nils]).flatten := by
  induction n with
  | zero => rfl
  | succ n ih =>
    simp only [List.replicate_succ, List.flatten_cons, flatT, List.map_cons, plains_app] at ih ⊢
    rw [← ih]
    rfl
theorem flatT_rep' (n : Nat) : flatT (List.replicate n (.mk 0 0 [])) = AV.plains (List.replicate n [AV.d (.int .i64 0), .d (.int .i64 0), .nils]).flatten := flatT_rep n

/-- The rows of the result, as far as they have been made. -/
def outRows (x : MS) (n i : Nat) : List Ty := (List.range n).map fun q => if q < i then x.at q else .mk 0 0 []

theorem outRows_zero (x : MS) (n : Nat) : outRows x n 0 = List.replicate n (.mk 0 0 []) := by
  unfold outRows
  refine List.ext_getElem (by simp) (fun i h1 h2 => by simp)
theorem outRows_len (x : MS) (n i : Nat) : (outRows x n i).length = n := by simp [outRows]
theorem outRows_full (x : MS) : outRows x x.count.toNat x.count.toNat = x.out := by
  unfold outRows MS.out
  refine List.map_congr_left (fun q hq => ?_)
  simp at hq; simp; omega
theorem outRows_set (x : MS) (n i : Nat) : (outRows x n i).set i (x.at i) = outRows x n (i + 1) := by
  refine List.ext_getElem (by simp [outRows]) (fun q h1 h2 => ?_)
  simp only [outRows, List.getElem_set, List.getElem_map, List.getElem_range]
  by_cases h : i = q
  · subst h; simp
  · rw [if_neg h]
    by_cases h3 : q < i
    · rw [if_pos h3, if_pos (by omega)]
    · rw [if_neg h3, if_neg (by omega)]
theorem flatT_data : ∀ l : List Ty, dvs (flatT l) = some (l.map Ty.enc).flatten
  | [] => rfl
  | t :: l => by
    have ih := flatT_data l
    obtain ⟨k, n, a⟩ := t
    simp only [flatT, List.map_cons, List.flatten_cons, encA, Ty.enc, List.map_nil, List.cons_append, List.nil_append] at ih ⊢
    simp only [dvs, AV.dv, Option.bind_eq_bind, Option.bind_some]
    rw [ih]
    rfl
theorem chunk_enc : ∀ l : List Ty, chunk 3 l.length (l.map Ty.enc).flatten = Ty.encs l
  | [] => rfl
  | t :: l => by
    obtain ⟨k, n, a⟩ := t
    simp only [List.map_cons, List.length_cons, List.flatten_cons, chunk, Ty.enc, Ty.encs, List.cons_append, List.nil_append, List.take_succ_cons, List.take_zero, List.drop_succ_cons, List.drop_zero, chunk_enc l]

theorem plains_flatT : ∀ l : List Ty, AV.plains (flatT l) = flatT l
  | [] => rfl
  | t :: l => by
    have ih := plains_flatT l
    obtain ⟨k, n, a⟩ := t
    simp only [flatT, List.map_cons, List.flatten_cons, plains_app] at ih ⊢
    rw [ih]; rfl

/-- Less is known of one block. -/
theorem Run.weakQ {cx : Cx} {K : AV → Heap → Prop} {k : List CI} {F : Fm} {L : Lm} {σ : Heap} {q : Nat} {cs : List AV} (h : Run cx K k F L (σ.setBlk q (AV.plains cs))) : Run cx K k F L (σ.setBlk q cs) :=
  Run.weakV (σ' := σ.setBlk q (AV.plains cs)) (fun j cs' hj => by
    by_cases e : j = q
    · subst e
      rw [setBlk_get, if_pos rfl] at hj; cases hj
      exact ⟨cs, by simp [setBlk_get], .inr rfl⟩
    · exact ⟨cs', by simpa [setBlk_get, e] using hj, .inl rfl⟩) (fun t h => h) h

theorem typing_Match_ok (t u : Ty) (B : Nat) (hB : 1 ≤ B) (hB2 : B ≤ 1000000) (ht : t.size ≤ B) (hu : u.size ≤ B) (σ : Heap) : ACalls Try.prog 12 [tyA t, tyA u] σ (fun v σ' => v = matchA (matchOf t u) ∧ σ' = σ) := by
  have hm0 := ms0_ok B hB
  have hmt := mt_ok B t ms0 u hm0 hu
  obtain ⟨kd, nm, l⟩ := t
  obtain ⟨kd', nm', l'⟩ := u
  refine i_typing_Match (by simp) ?_
  rw [argF_2]
  (repeat (first
      | refine Run.seq ?_
      | refine Run.skip ?_
      | refine Run.block ?_
      | refine Run.blk ?_
      | (refine Run.exit rfl ?_)
      | (refine Run.reg mixed ?_; simp -implicitDefEqProofs only [go_sem, eq_self, Nat.reduceEqDiff, Nat.reduceBEq, Nat.reduceAdd, Nat.reduceLeDiff, reduceIte, reduceCtorEq, tysA, tyA, Ty.enc, Ty.encs])
      | (refine Run.condM ?_; simp -implicitDefEqProofs only [go_sem, eq_self, Nat.reduceEqDiff, Nat.reduceBEq, Nat.reduceAdd, Nat.reduceLeDiff, reduceIte, reduceCtorEq, tysA, tyA, Ty.enc, Ty.encs])))
  refine Run.regTC mixed (fun F L σ' => ∃ i j k, Ids i j k ∧ (σ.blk i = none ∧ σ.blk j = none ∧ σ.blk k = none) ∧ keep [2, 3, 6] F = put 2 (.lp 2 0) (put 3 (.lp 3 0) (put 6 (.gp i 0) U)) ∧
      keepL [2, 3, 6] L = putL 2 [.d (.int .i64 kd), .d (.int .i64 nm), tysA l] (putL 3 [.d (.int .i64 kd'), .d (.int .i64 nm'), tysA l'] E) ∧
      σ' = ((σ.setBlk j (flatB (List.replicate 101 false))).setBlk k (List.replicate 101 [AV.d (.int .i64 0), .d (.int .i64 0), .nils]).flatten).setBlk i [.ms j 101, .ms k 101, .d (.int .i64 0)]) ?_ ?_
  · simp -implicitDefEqProofs only [go_sem, eq_self, Nat.reduceEqDiff, Nat.reduceBEq, Nat.reduceAdd, Nat.reduceLeDiff, reduceIte, reduceCtorEq, tysA, tyA, Ty.enc, Ty.encs]
    constructor
    · refine XMsl.mk 101 (by decide) (by decide) (fun j hj => ?_)
      simp -implicitDefEqProofs only [go_sem, eq_self, Nat.reduceEqDiff, Nat.reduceBEq, Nat.reduceAdd, Nat.reduceLeDiff, reduceIte, reduceCtorEq, tysA, tyA, Ty.enc, Ty.encs]
      refine XMsl.mk 101 (by decide) (by decide) (fun k hk => ?_)
      simp -implicitDefEqProofs only [go_sem, eq_self, Nat.reduceEqDiff, Nat.reduceBEq, Nat.reduceAdd, Nat.reduceLeDiff, reduceIte, reduceCtorEq, tysA, tyA, Ty.enc, Ty.encs]
      intro i hi
      rw [setBlk_get] at hk
      split at hk
      · cases hk
      split at hi
      · cases hi
      split at hi
      · cases hi
      refine ⟨i, j, k, ⟨by omega, by omega, by omega⟩, ⟨hi, hj, hk⟩, rfl, ?_⟩
      rw [flatB_rep]
    · refine XMsl.mk 101 (by decide) (by decide) (fun k hk => ?_)
      simp -implicitDefEqProofs only [go_sem, eq_self, Nat.reduceEqDiff, Nat.reduceBEq, Nat.reduceAdd, Nat.reduceLeDiff, reduceIte, reduceCtorEq, tysA, tyA, Ty.enc, Ty.encs]
      refine XMsl.mk 101 (by decide) (by decide) (fun j hj => ?_)
      simp -implicitDefEqProofs only [go_sem, eq_self, Nat.reduceEqDiff, Nat.reduceBEq, Nat.reduceAdd, Nat.reduceLeDiff, reduceIte, reduceCtorEq, tysA, tyA, Ty.enc, Ty.encs]
      intro i hi
      rw [setBlk_get] at hj
      split at hj
      · cases hj
      split at hi
      · cases hi
      split at hi
      · cases hi
      refine ⟨i, j, k, ⟨by omega, by omega, by omega⟩, ⟨hi, hj, hk⟩, rfl, ?_⟩
      rw [flatB_rep, setBlk_comm σ (show k ≠ j by omega)]
  · rintro F L σ' ⟨i, j, k, h3, ⟨hi, hj, hk⟩, eF, eL, rfl⟩
    rw [eF, eL]
    refine Run.weakV (σ' := hpM σ i j k ms0) (fun q cs' hq => ?_) (fun t h => h) ?_
    · by_cases e : q = i
      · subst e
        rw [hpM_i] at hq; cases hq
        exact ⟨[.ms j 101, .ms k 101, .d (.int .i64 0)], by simp [setBlk_get], .inl rfl⟩
      · by_cases e' : q = k
        · subst e'
          rw [hpM_k h3] at hq; cases hq
          exact ⟨_, by simp [setBlk_get, e], .inr (flatT_rep 101)⟩
        · refine ⟨cs', ?_, .inl rfl⟩
          simpa [hpM, setBlk_get, e, e', ms0] using hq
    (repeat (first
      | refine Run.seq ?_
      | refine Run.skip ?_
      | refine Run.block ?_
      | refine Run.blk ?_
      | (refine Run.exit rfl ?_)
      | (refine Run.reg mixed ?_; simp -implicitDefEqProofs only [go_sem, eq_self, Nat.reduceEqDiff, Nat.reduceBEq, Nat.reduceAdd, Nat.reduceLeDiff, reduceIte, reduceCtorEq, tysA, tyA, Ty.enc, Ty.encs])
      | (refine Run.condM ?_; simp -implicitDefEqProofs only [go_sem, eq_self, Nat.reduceEqDiff, Nat.reduceBEq, Nat.reduceAdd, Nat.reduceLeDiff, reduceIte, reduceCtorEq, tysA, tyA, Ty.enc, Ty.encs])))
    refine XCall.mk rfl (typing_match_ok h3 B hB2 B (.mk kd nm l) (.mk kd' nm' l') ms0 ht hB2 hu hm0) ?_
    rintro v σ' ⟨rfl, rfl⟩
    simp -implicitDefEqProofs only [go_sem, eq_self, Nat.reduceEqDiff, Nat.reduceBEq, Nat.reduceAdd, Nat.reduceLeDiff, reduceIte, reduceCtorEq, tysA, tyA, Ty.enc, Ty.encs]
    (repeat (first
      | refine Run.seq ?_
      | refine Run.skip ?_
      | refine Run.block ?_
      | refine Run.blk ?_
      | (refine Run.exit rfl ?_)
      | (refine Run.reg mixed ?_; simp -implicitDefEqProofs only [go_sem, eq_self, Nat.reduceEqDiff, Nat.reduceBEq, Nat.reduceAdd, Nat.reduceLeDiff, reduceIte, reduceCtorEq, tysA, tyA, Ty.enc, Ty.encs])
      | (refine Run.condM ?_; simp -implicitDefEqProofs only [go_sem, eq_self, Nat.reduceEqDiff, Nat.reduceBEq, Nat.reduceAdd, Nat.reduceLeDiff, reduceIte, reduceCtorEq, tysA, tyA, Ty.enc, Ty.encs])))
    generalize hr : (Ty.mk kd nm l).mt ms0 (.mk kd' nm' l') = r at hmt
    obtain ⟨b, y⟩ := r
    simp only at hmt
    refine ⟨fun h => ?_, fun h => ?_⟩
    · have hb : b = false := by simpa using h
      (repeat (first
      | refine Run.seq ?_
      | refine Run.skip ?_
      | refine Run.block ?_
      | refine Run.blk ?_
      | (refine Run.exit rfl ?_)
      | (refine Run.reg mixed ?_; simp -implicitDefEqProofs only [go_sem, eq_self, Nat.reduceEqDiff, Nat.reduceBEq, Nat.reduceAdd, Nat.reduceLeDiff, reduceIte, reduceCtorEq, tysA, tyA, Ty.enc, Ty.encs])
      | (refine Run.condM ?_; simp -implicitDefEqProofs only [go_sem, eq_self, Nat.reduceEqDiff, Nat.reduceBEq, Nat.reduceAdd, Nat.reduceLeDiff, reduceIte, reduceCtorEq, tysA, tyA, Ty.enc, Ty.encs])))
      refine Run.retP (σ2 := σ) g_typing_Match ?_ ?_
      · refine ⟨fun q cs hq => ?_, fun t h => h⟩
        have n1 : q ≠ i := fun e => by rw [e, hi] at hq; cases hq
        have n2 : q ≠ j := fun e => by rw [e, hj] at hq; cases hq
        have n3 : q ≠ k := fun e => by rw [e, hk] at hq; cases hq
        simpa [hpM, setBlk_get, n1, n2, n3] using hq
      · simp -implicitDefEqProofs only [rs_typing_Match, go_sem, eq_self, Nat.reduceEqDiff, Nat.reduceBEq, Nat.reduceAdd, Nat.reduceLeDiff, reduceIte, reduceCtorEq, tysA, tyA, Ty.enc, Ty.encs]
        simp [matchOf, hr, hb, matchA, Ty.encs]
    · have hb : b = true := by simpa using h
      have hmo : matchOf (.mk kd nm l) (.mk kd' nm' l') = some y.out := by simp [matchOf, hr, hb]
      rw [hmo]
      obtain ⟨c, hc⟩ := Int.eq_ofNat_of_zero_le hmt.count.1
      have hc101 : c ≤ 101 := by have := hmt.count.2; omega
      (repeat (first
      | refine Run.seq ?_
      | refine Run.skip ?_
      | refine Run.block ?_
      | refine Run.blk ?_
      | (refine Run.exit rfl ?_)
      | (refine Run.reg mixed ?_; simp -implicitDefEqProofs only [hpM_i, hc, go_sem, eq_self, Nat.reduceEqDiff, Nat.reduceBEq, Nat.reduceAdd, Nat.reduceLeDiff, reduceIte, reduceCtorEq, tysA, tyA, Ty.enc, Ty.encs])
      | (refine Run.condM ?_; simp -implicitDefEqProofs only [hpM_i, hc, go_sem, eq_self, Nat.reduceEqDiff, Nat.reduceBEq, Nat.reduceAdd, Nat.reduceLeDiff, reduceIte, reduceCtorEq, tysA, tyA, Ty.enc, Ty.encs])))
      refine XMsl.mk c (by omega) (by omega) (fun q hq => ?_)
      simp -implicitDefEqProofs only [go_sem, eq_self, Nat.reduceEqDiff, Nat.reduceBEq, Nat.reduceAdd, Nat.reduceLeDiff, reduceIte, reduceCtorEq, tysA, tyA, Ty.enc, Ty.encs]
      (repeat (first
      | refine Run.seq ?_
      | refine Run.skip ?_
      | refine Run.block ?_
      | refine Run.blk ?_
      | (refine Run.exit rfl ?_)
      | (refine Run.reg mixed ?_; simp -implicitDefEqProofs only [go_sem, eq_self, Nat.reduceEqDiff, Nat.reduceBEq, Nat.reduceAdd, Nat.reduceLeDiff, reduceIte, reduceCtorEq, tysA, tyA, Ty.enc, Ty.encs])
      | (refine Run.condM ?_; simp -implicitDefEqProofs only [go_sem, eq_self, Nat.reduceEqDiff, Nat.reduceBEq, Nat.reduceAdd, Nat.reduceLeDiff, reduceIte, reduceCtorEq, tysA, tyA, Ty.enc, Ty.encs])))
      have hqi : q ≠ i := fun e => by rw [e, hpM_i] at hq; cases hq
      have hqj : q ≠ j := fun e => by rw [e, hpM_j h3] at hq; cases hq
      have hqk : q ≠ k := fun e => by rw [e, hpM_k h3] at hq; cases hq
      have hσq : σ.blk q = none := by simpa [hpM, setBlk_get, hqi, hqj, hqk] using hq
      refine Run.weakQ ?_
      rw [← flatT_rep, ← outRows_zero y c]
      refine Run.loopA ?_
      refine Run.loopI (fun p : Nat => put 6 (.gp i 0) (put 7 (.ms q c) (put 24 (.d (.int .i64 c)) (put 25 (.d (.int .i64 p)) U)))) (fun _ => E) (fun p => (hpM σ i j k y).setBlk q (flatT (outRows y c p)))
        (fun p => p ≤ c) (fun p => c - p) ?_ 0 (by omega)
      intro p hp ih
      have hflen : (flatT (outRows y c p)).length = c * 3 := by unfold flatT; rw [flatR_len encA 3 encA_len, outRows_len]
      (repeat (first
      | refine Run.seq ?_
      | refine Run.skip ?_
      | refine Run.block ?_
      | refine Run.blk ?_
      | (refine Run.exit rfl ?_)
      | (refine Run.reg mixed ?_; simp -implicitDefEqProofs only [go_sem, eq_self, Nat.reduceEqDiff, Nat.reduceBEq, Nat.reduceAdd, Nat.reduceLeDiff, reduceIte, reduceCtorEq, tysA, tyA, Ty.enc, Ty.encs])
      | (refine Run.condM ?_; simp -implicitDefEqProofs only [go_sem, eq_self, Nat.reduceEqDiff, Nat.reduceBEq, Nat.reduceAdd, Nat.reduceLeDiff, reduceIte, reduceCtorEq, tysA, tyA, Ty.enc, Ty.encs])))
      refine ⟨fun h => ?_, fun h => ?_⟩
      · have hlt : p < c := by simp at h; omega
        have hp101 : p < 101 := by omega
        have ep : (0 : Int) ≤ (p : Int) ∧ (p : Int) < (c : Int) := by omega
        have ep2 : (0 : Int) ≤ (p : Int) ∧ (p : Int) < ((101 : Nat) : Int) := by omega
        have hle : p * 3 + 3 ≤ (flatT (outRows y c p)).length := by omega
        have hw1 : AV.plains (List.take (p * 3) (flatT (outRows y c p)) ++ [AV.d (.int .i64 3), .d (.int .i64 0), .nils] ++ List.drop (p * 3 + 3) (flatT (outRows y c p))) = flatT ((outRows y c p).set p (.mk 3 0 [])) := by
          have e := flatR_set encA 3 encA_len (outRows y c p) p (.mk 3 0 []) (by rw [outRows_len]; exact hlt)
          unfold flatT at e ⊢
          rw [← e]
          have e2 := plains_flatT (outRows y c p)
          have e3 : ∀ (l : List AV) (n : Nat), AV.plains (l.take n) = (AV.plains l).take n := fun l => by
            induction l with
            | nil => intro n; simp [AV.plains]
            | cons v l ih => intro n; cases n with
              | zero => simp [AV.plains]
              | succ n => simp [AV.plains, ih n]
          have e4 : ∀ (l : List AV) (n : Nat), AV.plains (l.drop n) = (AV.plains l).drop n := fun l => by
            induction l with
            | nil => intro n; simp [AV.plains]
            | cons v l ih => intro n; cases n with
              | zero => simp [AV.plains]
              | succ n => simp [AV.plains, ih n]
          unfold flatT at e2
          rw [plains_app, plains_app, e3, e4, e2]
          rfl
        (repeat (first
      | refine Run.seq ?_
      | refine Run.skip ?_
      | refine Run.block ?_
      | refine Run.blk ?_
      | (refine Run.exit rfl ?_)))
        (refine Run.reg mixed ?_; simp -implicitDefEqProofs only [go_sem, eq_self, Nat.reduceEqDiff, Nat.reduceBEq, Nat.reduceAdd, Nat.reduceLeDiff, reduceIte, reduceCtorEq, tysA, tyA, Ty.enc, Ty.encs])
        (repeat (first
      | refine Run.seq ?_
      | refine Run.skip ?_
      | refine Run.block ?_
      | refine Run.blk ?_
      | (refine Run.exit rfl ?_)))
        (refine Run.reg mixed ?_; simp -implicitDefEqProofs only [ep, hle, setBlk_set, go_sem, eq_self, Nat.reduceEqDiff, Nat.reduceBEq, Nat.reduceAdd, Nat.reduceLeDiff, reduceIte, reduceCtorEq, tysA, tyA, Ty.enc, Ty.encs])
        (repeat (first
      | refine Run.seq ?_
      | refine Run.skip ?_
      | refine Run.block ?_
      | refine Run.blk ?_
      | (refine Run.exit rfl ?_)))
        refine Run.weakQ ?_
        rw [hw1]
        have hpf : p < y.found.length := by rw [hmt.found]; exact hp101
        have hpt : p < y.types.length := by rw [hmt.types]; exact hp101
        have hfg : (flatB y.found)[p]? = some (.d (.bool y.found[p])) := by simp [flatB, hpf]
        have hgd : y.found.getD p false = y.found[p] := by simp [hpf]
        have htg : y.types.getD p (.mk 0 0 []) = y.types[p] := by simp [hpt]
        (repeat (first
      | refine Run.seq ?_
      | refine Run.skip ?_
      | refine Run.block ?_
      | refine Run.blk ?_
      | (refine Run.exit rfl ?_)
      | (refine Run.reg mixed ?_; simp -implicitDefEqProofs only [hqi.symm, hqj.symm, hpM_i, hpM_j h3, ep2, Nat.mul_one, hfg, go_sem, eq_self, Nat.reduceEqDiff, Nat.reduceBEq, Nat.reduceAdd, Nat.reduceLeDiff, reduceIte, reduceCtorEq, tysA, tyA, Ty.enc, Ty.encs])
      | (refine Run.condM ?_; simp -implicitDefEqProofs only [hqi.symm, hqj.symm, hpM_i, hpM_j h3, ep2, Nat.mul_one, hfg, go_sem, eq_self, Nat.reduceEqDiff, Nat.reduceBEq, Nat.reduceAdd, Nat.reduceLeDiff, reduceIte, reduceCtorEq, tysA, tyA, Ty.enc, Ty.encs])))
        refine ⟨fun h => ?_, fun h => ?_⟩
        · have hft : List.take 3 (List.drop (p * 3) (flatT y.types)) = encA y.types[p] := flatR_get encA 3 encA_len y.types p y.types[p] (by simp [hpt])
          have hle2 : p * 3 + 3 ≤ (flatT y.types).length := by unfold flatT; rw [flatR_len encA 3 encA_len]; omega
          have hle3 : p * 3 + 3 ≤ (flatT ((outRows y c p).set p (.mk 3 0 []))).length := by
            unfold flatT; rw [flatR_len encA 3 encA_len, List.length_set, outRows_len]; omega
          have hat : y.at p = y.types[p] := by unfold MS.at; rw [hgd, h, htg]; rfl
          have hsm := hmt.small y.types[p] (List.getElem_mem hpt)
          have hsub := typing_Subst_nil 1000000 y.types[p] ((hpM σ i j k y).setBlk q (flatT ((outRows y c p).set p (.mk 3 0 [])))) (by omega) (Nat.le_refl _)
          have hset := flatR_set encA 3 encA_len ((outRows y c p).set p (.mk 3 0 [])) p y.types[p] (by rw [List.length_set, outRows_len]; exact hlt)
          rw [List.set_set, ← hat, outRows_set] at hset
          have ih' := ih (p + 1) (by omega) (by omega)
          rw [hat] at hset
          generalize y.types[p] = tq at *
          obtain ⟨k2, n2, a2⟩ := tq
          (repeat (first
      | refine Run.seq ?_
      | refine Run.skip ?_
      | refine Run.block ?_
      | refine Run.blk ?_
      | (refine Run.exit rfl ?_)))
          (refine Run.reg mixed ?_; simp -implicitDefEqProofs only [hqi.symm, hqk.symm, hpM_i, hpM_k h3, ep2, hle2, hft, encA, go_sem, eq_self, Nat.reduceEqDiff, Nat.reduceBEq, Nat.reduceAdd, Nat.reduceLeDiff, reduceIte, reduceCtorEq, tysA, tyA, Ty.enc, Ty.encs])
          refine XCall.mk rfl (ACalls.plain hsub) ?_
          rintro v σ' ⟨rfl, rfl⟩
          simp -implicitDefEqProofs only [ep, hle3, setBlk_set, go_sem, eq_self, Nat.reduceEqDiff, Nat.reduceBEq, Nat.reduceAdd, Nat.reduceLeDiff, reduceIte, reduceCtorEq, tysA, tyA, Ty.enc, Ty.encs]
          (repeat (first
      | refine Run.seq ?_
      | refine Run.skip ?_
      | refine Run.block ?_
      | refine Run.blk ?_
      | (refine Run.exit rfl ?_)
      | (refine Run.reg mixed ?_; simp -implicitDefEqProofs only [go_sem, eq_self, Nat.reduceEqDiff, Nat.reduceBEq, Nat.reduceAdd, Nat.reduceLeDiff, reduceIte, reduceCtorEq, tysA, tyA, Ty.enc, Ty.encs])
      | (refine Run.condM ?_; simp -implicitDefEqProofs only [go_sem, eq_self, Nat.reduceEqDiff, Nat.reduceBEq, Nat.reduceAdd, Nat.reduceLeDiff, reduceIte, reduceCtorEq, tysA, tyA, Ty.enc, Ty.encs])))
          rw [wrap_succ (by omega)]
          have hset' : List.take (p * 3) (flatT ((outRows y c p).set p (.mk 3 0 []))) ++ [AV.d (.int .i64 k2), .d (.int .i64 n2), .d (.sl (Ty.encs a2))] ++ List.drop (p * 3 + 3) (flatT ((outRows y c p).set p (.mk 3 0 []))) = flatT (outRows y c (p + 1)) := hset
          rw [hset']
          exact ih'
        · have hat : y.at p = .mk 3 0 [] := by unfold MS.at; rw [hgd, h]; rfl
          (repeat (first
      | refine Run.seq ?_
      | refine Run.skip ?_
      | refine Run.block ?_
      | refine Run.blk ?_
      | (refine Run.exit rfl ?_)
      | (refine Run.reg mixed ?_; simp -implicitDefEqProofs only [go_sem, eq_self, Nat.reduceEqDiff, Nat.reduceBEq, Nat.reduceAdd, Nat.reduceLeDiff, reduceIte, reduceCtorEq, tysA, tyA, Ty.enc, Ty.encs])
      | (refine Run.condM ?_; simp -implicitDefEqProofs only [go_sem, eq_self, Nat.reduceEqDiff, Nat.reduceBEq, Nat.reduceAdd, Nat.reduceLeDiff, reduceIte, reduceCtorEq, tysA, tyA, Ty.enc, Ty.encs])))
          rw [wrap_succ (by omega), ← hat, outRows_set]
          exact ih (p + 1) (by omega) (by omega)
      · have hpc : p = c := by simp at h; omega
        subst hpc
        have hcn : y.count.toNat = p := by rw [hc]; simp
        have hout : outRows y p p = y.out := by rw [← outRows_full y, hcn]
        rw [hout] at hflen ⊢
        have hol : y.out.length = p := by simp [MS.out, hcn]
        (repeat (first
      | refine Run.seq ?_
      | refine Run.skip ?_
      | refine Run.block ?_
      | refine Run.blk ?_
      | (refine Run.exit rfl ?_)
      | (refine Run.reg mixed ?_; simp -implicitDefEqProofs only [go_sem, eq_self, Nat.reduceEqDiff, Nat.reduceBEq, Nat.reduceAdd, Nat.reduceLeDiff, reduceIte, reduceCtorEq, tysA, tyA, Ty.enc, Ty.encs])
      | (refine Run.condM ?_; simp -implicitDefEqProofs only [go_sem, eq_self, Nat.reduceEqDiff, Nat.reduceBEq, Nat.reduceAdd, Nat.reduceLeDiff, reduceIte, reduceCtorEq, tysA, tyA, Ty.enc, Ty.encs])))
        have hfd := flatT_data y.out
        refine Run.freeze (i := q) (n := p) (size := 3) (σ' := σ) (L' := E) (F' := put 4 (tysA y.out) (put 5 (.d (.bool true)) U)) (by simp [setBlk_get]) hfd hflen (by simp [maxLen]; omega) (fun s => ?_) (fun k cs h => by cases h) (fun r cs' hr' => ?_) (fun t h => h) ?_
        · have hch : chunk 3 p (y.out.map Ty.enc).flatten = Ty.encs y.out := by rw [← chunk_enc, hol]
          rw [hch]
          by_cases e4 : s = 4
          · subst e4; exact .inr (by simp [put, frz, tysA])
          · exact .inl (by simp [put, e4])
        · have n0 : r ≠ q := fun e => by rw [e, hσq] at hr'; cases hr'
          have n1 : r ≠ i := fun e => by rw [e, hi] at hr'; cases hr'
          have n2 : r ≠ j := fun e => by rw [e, hj] at hr'; cases hr'
          have n3 : r ≠ k := fun e => by rw [e, hk] at hr'; cases hr'
          exact ⟨n0, cs', by simpa [hpM, setBlk_get, n0, n1, n2, n3] using hr', .inl rfl⟩
        · refine Run.retP g_typing_Match (Heap.le_refl _) ?_
          simp -implicitDefEqProofs only [rs_typing_Match, go_sem, eq_self, Nat.reduceEqDiff, Nat.reduceBEq, Nat.reduceAdd, Nat.reduceLeDiff, reduceIte, reduceCtorEq, tysA, tyA, Ty.enc, Ty.encs]
          rfl
end Go.Ab
