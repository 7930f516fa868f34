/- Copies of rows of terms. Conditions: none. -/
import Derived.Test.YtdbpmhfepfpldaaDoorXGb
set_option linter.unusedSimpArgs false
set_option linter.unusedVariables false
namespace Go.Ab
open Go.Proofs

theorem newCells_tm : ∀ ts : List (Int × Int), newCells (ts.map tmR) = prs ts
  | [] => rfl
  | x :: l => by
    have := newCells_tm l
    simp only [newCells, List.map_cons, tmR, List.flatten_cons, List.map_append, List.map_nil] at this ⊢
    simp only [prs, List.cons_append, List.nil_append, List.cons.injEq, true_and]
    exact this
theorem Heap.ext' {σ τ : Heap} (h1 : σ.blk = τ.blk) (h2 : σ.tok = τ.tok) (h3 : σ.gt = τ.gt) (h4 : σ.bt = τ.bt) : σ = τ := by
  cases σ; cases τ; simp_all
theorem del_set {σ : Heap} {j : Nat} {cs : List AV} (h : σ.blk j = none) : (σ.setBlk j cs).delBlk j = σ := by
  refine Heap.ext' ?_ rfl rfl rfl
  funext k
  by_cases e : k = j
  · subst e; simp [Heap.delBlk, h]
  · simp [Heap.delBlk, Heap.setBlk, e]
theorem rows_tm (ts : List (Int × Int)) : ∀ r ∈ ts.map tmR, r.length = 2 := by
  intro r hr
  obtain ⟨x, _, rfl⟩ := List.mem_map.1 hr
  rfl

/-- A mutable row of terms: none, or a block of its own. -/
def MR (σ : Heap) (ts : List (Int × Int)) (v : AV) (σ' : Heap) : Prop := (ts = [] ∧ v = .nils ∧ σ' = σ) ∨ ∃ j, σ.blk j = none ∧ v = .ms j ts.length 2 49 ∧ σ' = σ.setBlk j (prs ts)

theorem Clone_ok (ts : List (Int × Int)) (σ : Heap) (hl : ts.length ≤ 1000000) : ACalls Tryd.prog 85 [tmsA ts] σ (MR σ ts) := by
  refine i_slices_Clone_api_LinTerm (by simp) ?_
  rw [argF_1, tmsA]
  cases ts with
  | nil =>
    (repeat' (first
      | refine Run.seq ?_
      | refine Run.skip ?_
      | refine Run.block ?_
      | refine Run.blk ?_
      | refine Run.scope ?_
      | refine Run.scp ?_
      | (refine Run.exit rfl ?_)
      | (refine Run.reg mixed ?_; simp -implicitDefEqProofs only [List.map_nil, rs_slices_Clone_api_LinTerm, Bool.not_eq_true', Bool.not_eq_false', go_sem, eq_self, Nat.reduceEqDiff, Nat.reduceBEq, Nat.reduceAdd, Nat.reduceLeDiff, reduceIte, reduceCtorEq, tysA, tyA, Ty.enc, Ty.encs])
      | (refine Run.condM ?_; simp -implicitDefEqProofs only [List.map_nil, rs_slices_Clone_api_LinTerm, Bool.not_eq_true', Bool.not_eq_false', go_sem, eq_self, Nat.reduceEqDiff, Nat.reduceBEq, Nat.reduceAdd, Nat.reduceLeDiff, reduceIte, reduceCtorEq, tysA, tyA, Ty.enc, Ty.encs])
      | (refine XEx.snil_any rfl rfl (fun b => ?_); (try simp -implicitDefEqProofs only [List.map_nil, rs_slices_Clone_api_LinTerm, Bool.not_eq_true', Bool.not_eq_false', go_sem, eq_self, Nat.reduceEqDiff, Nat.reduceBEq, Nat.reduceAdd, Nat.reduceLeDiff, reduceIte, reduceCtorEq, tysA, tyA, Ty.enc, Ty.encs]))
      | (refine XBslM.mk (fun j hj => ?_); (try simp -implicitDefEqProofs only [List.map_nil, rs_slices_Clone_api_LinTerm, Bool.not_eq_true', Bool.not_eq_false', go_sem, eq_self, Nat.reduceEqDiff, Nat.reduceBEq, Nat.reduceAdd, Nat.reduceLeDiff, reduceIte, reduceCtorEq, tysA, tyA, Ty.enc, Ty.encs]))
      | (refine XAppM.emp (n := 0) (cs := []) (σ1 := (σ.setBlk j []).delBlk j) (by simp [appmA, setBlk_get]) rfl (by omega) (by omega) ?_; (try simp -implicitDefEqProofs only [List.map_nil, rs_slices_Clone_api_LinTerm, Bool.not_eq_true', Bool.not_eq_false', go_sem, eq_self, Nat.reduceEqDiff, Nat.reduceBEq, Nat.reduceAdd, Nat.reduceLeDiff, reduceIte, reduceCtorEq, tysA, tyA, Ty.enc, Ty.encs]))
      | (refine Run.retR g_slices_Clone_api_LinTerm (Heap.le_refl _) ?_; simp -implicitDefEqProofs only [rs_slices_Clone_api_LinTerm, List.map_nil, go_sem, eq_self, Nat.reduceEqDiff, Nat.reduceBEq, Nat.reduceAdd, Nat.reduceLeDiff, reduceIte, reduceCtorEq, tysA, tyA, Ty.enc, Ty.encs])
      | (refine xo_gs rfl (fun h => ?_) (fun h => ?_) <;> first | (cases h; done) | simp -implicitDefEqProofs only [List.map_nil, rs_slices_Clone_api_LinTerm, Bool.not_eq_true', Bool.not_eq_false', go_sem, eq_self, Nat.reduceEqDiff, Nat.reduceBEq, Nat.reduceAdd, Nat.reduceLeDiff, reduceIte, reduceCtorEq, tysA, tyA, Ty.enc, Ty.encs])
      | (refine ⟨fun h => ?_, fun h => ?_⟩ <;> first | (cases h; done) | (simp -implicitDefEqProofs only [h]; done) | (try simp -implicitDefEqProofs only [h]))
      | fail))
    · exact .inl ⟨rfl, rfl, rfl⟩
    · exact .inr ⟨j, hj, rfl, rfl⟩
  | cons x l =>
    (repeat' (first
      | refine Run.seq ?_
      | refine Run.skip ?_
      | refine Run.block ?_
      | refine Run.blk ?_
      | refine Run.scope ?_
      | refine Run.scp ?_
      | (refine Run.exit rfl ?_)
      | (refine Run.reg mixed ?_; simp -implicitDefEqProofs only [List.map_nil, rs_slices_Clone_api_LinTerm, Bool.not_eq_true', Bool.not_eq_false', go_sem, eq_self, Nat.reduceEqDiff, Nat.reduceBEq, Nat.reduceAdd, Nat.reduceLeDiff, reduceIte, reduceCtorEq, tysA, tyA, Ty.enc, Ty.encs])
      | (refine Run.condM ?_; simp -implicitDefEqProofs only [List.map_nil, rs_slices_Clone_api_LinTerm, Bool.not_eq_true', Bool.not_eq_false', go_sem, eq_self, Nat.reduceEqDiff, Nat.reduceBEq, Nat.reduceAdd, Nat.reduceLeDiff, reduceIte, reduceCtorEq, tysA, tyA, Ty.enc, Ty.encs])
      | (refine XEx.snil rfl (b := false) rfl ?_; (try simp -implicitDefEqProofs only [List.map_nil, rs_slices_Clone_api_LinTerm, Bool.not_eq_true', Bool.not_eq_false', go_sem, eq_self, Nat.reduceEqDiff, Nat.reduceBEq, Nat.reduceAdd, Nat.reduceLeDiff, reduceIte, reduceCtorEq, tysA, tyA, Ty.enc, Ty.encs]))
      | (refine XBslM.mk (fun j hj => ?_); (try simp -implicitDefEqProofs only [List.map_nil, rs_slices_Clone_api_LinTerm, Bool.not_eq_true', Bool.not_eq_false', go_sem, eq_self, Nat.reduceEqDiff, Nat.reduceBEq, Nat.reduceAdd, Nat.reduceLeDiff, reduceIte, reduceCtorEq, tysA, tyA, Ty.enc, Ty.encs]))
      | (refine XAppM.mk (n := 0) (cs := []) (srows := (x :: l).map tmR) (σ1 := (σ.setBlk j []).delBlk j) (by simp [appmA, setBlk_get]) rfl (rows_tm _) (by simp) (by simp at hl ⊢; omega) (by omega) (fun j2 hj2 => ?_); (try simp -implicitDefEqProofs only [List.map_nil, rs_slices_Clone_api_LinTerm, Bool.not_eq_true', Bool.not_eq_false', go_sem, eq_self, Nat.reduceEqDiff, Nat.reduceBEq, Nat.reduceAdd, Nat.reduceLeDiff, reduceIte, reduceCtorEq, tysA, tyA, Ty.enc, Ty.encs]))
      | (refine Run.retR g_slices_Clone_api_LinTerm (Heap.le_refl _) ?_; simp -implicitDefEqProofs only [rs_slices_Clone_api_LinTerm, List.map_nil, go_sem, eq_self, Nat.reduceEqDiff, Nat.reduceBEq, Nat.reduceAdd, Nat.reduceLeDiff, reduceIte, reduceCtorEq, tysA, tyA, Ty.enc, Ty.encs])
      | (refine xo_gs rfl (fun h => ?_) (fun h => ?_) <;> first | (cases h; done) | simp -implicitDefEqProofs only [List.map_nil, rs_slices_Clone_api_LinTerm, Bool.not_eq_true', Bool.not_eq_false', go_sem, eq_self, Nat.reduceEqDiff, Nat.reduceBEq, Nat.reduceAdd, Nat.reduceLeDiff, reduceIte, reduceCtorEq, tysA, tyA, Ty.enc, Ty.encs])
      | (refine ⟨fun h => ?_, fun h => ?_⟩ <;> first | (cases h; done) | (simp -implicitDefEqProofs only [h]; done) | (try simp -implicitDefEqProofs only [h]))
      | fail))
    rw [show tmR x :: List.map tmR l = (x :: l).map tmR from rfl, newCells_tm, del_set hj]
    simp only [setBlk_get] at hj2
    split at hj2
    · cases hj2
    · exact .inr ⟨j2, hj2, by simp, rfl⟩

theorem Grow_ok (n : Nat) (σ : Heap) (hn : n ≤ 1000000) : ACalls Tryd.prog 88 [.nils, .d (.int .i64 n)] σ (MR σ []) := by
  refine i_slices_Grow_api_LinTerm (by simp) ?_
  rw [argF_2]
  have h1 : decide ((n : Int) < 0) = false := by simp
  have h2 : IntKind.i64.wrap ((0 : Int) - 0) = 0 := by decide
  have h3 : IntKind.i64.wrap ((n : Int) - 0) = (n : Int) := by rw [wrap_pos (by omega) (by omega)]; omega
  rcases Nat.eq_zero_or_pos n with h0 | h0
  · have h4 : decide ((0 : Int) < (n : Int)) = false := by simp; omega
    (repeat' (first
      | refine Run.seq ?_
      | refine Run.skip ?_
      | refine Run.block ?_
      | refine Run.blk ?_
      | refine Run.scope ?_
      | refine Run.scp ?_
      | (refine Run.exit rfl ?_)
      | (refine Run.reg mixed ?_; simp -implicitDefEqProofs only [h1, h2, h3, h4, rs_slices_Grow_api_LinTerm, Bool.not_eq_true', Bool.not_eq_false', go_sem, eq_self, Nat.reduceEqDiff, Nat.reduceBEq, Nat.reduceAdd, Nat.reduceLeDiff, reduceIte, reduceCtorEq, tysA, tyA, Ty.enc, Ty.encs])
      | (refine Run.condM ?_; simp -implicitDefEqProofs only [h1, h2, h3, h4, rs_slices_Grow_api_LinTerm, Bool.not_eq_true', Bool.not_eq_false', go_sem, eq_self, Nat.reduceEqDiff, Nat.reduceBEq, Nat.reduceAdd, Nat.reduceLeDiff, reduceIte, reduceCtorEq, tysA, tyA, Ty.enc, Ty.encs])
      | (refine Run.retR g_slices_Grow_api_LinTerm (Heap.le_refl _) ?_; simp -implicitDefEqProofs only [rs_slices_Grow_api_LinTerm, h1, h2, h3, h4, go_sem, eq_self, Nat.reduceEqDiff, Nat.reduceBEq, Nat.reduceAdd, Nat.reduceLeDiff, reduceIte, reduceCtorEq, tysA, tyA, Ty.enc, Ty.encs])
      | (refine xo_gs rfl (fun h => ?_) (fun h => ?_) <;> first | (cases h; done) | simp -implicitDefEqProofs only [h1, h2, h3, h4, rs_slices_Grow_api_LinTerm, Bool.not_eq_true', Bool.not_eq_false', go_sem, eq_self, Nat.reduceEqDiff, Nat.reduceBEq, Nat.reduceAdd, Nat.reduceLeDiff, reduceIte, reduceCtorEq, tysA, tyA, Ty.enc, Ty.encs])
      | (refine ⟨fun h => ?_, fun h => ?_⟩ <;> first | (cases h; done) | (simp -implicitDefEqProofs only [h]; done) | (try simp -implicitDefEqProofs only [h]))
      | fail))
    exact .inl ⟨rfl, rfl, rfl⟩
  · have h4 : decide ((0 : Int) < (n : Int)) = true := by simp; omega
    (repeat' (first
      | refine Run.seq ?_
      | refine Run.skip ?_
      | refine Run.block ?_
      | refine Run.blk ?_
      | refine Run.scope ?_
      | refine Run.scp ?_
      | (refine Run.exit rfl ?_)
      | (refine Run.reg mixed ?_; simp -implicitDefEqProofs only [h1, h2, h3, h4, rs_slices_Grow_api_LinTerm, Bool.not_eq_true', Bool.not_eq_false', go_sem, eq_self, Nat.reduceEqDiff, Nat.reduceBEq, Nat.reduceAdd, Nat.reduceLeDiff, reduceIte, reduceCtorEq, tysA, tyA, Ty.enc, Ty.encs])
      | (refine Run.condM ?_; simp -implicitDefEqProofs only [h1, h2, h3, h4, rs_slices_Grow_api_LinTerm, Bool.not_eq_true', Bool.not_eq_false', go_sem, eq_self, Nat.reduceEqDiff, Nat.reduceBEq, Nat.reduceAdd, Nat.reduceLeDiff, reduceIte, reduceCtorEq, tysA, tyA, Ty.enc, Ty.encs])
      | (refine XEx.appz h0 (by omega) (by omega) (fun j hj => ?_); (try simp -implicitDefEqProofs only [h1, h2, h3, h4, rs_slices_Grow_api_LinTerm, Bool.not_eq_true', Bool.not_eq_false', go_sem, eq_self, Nat.reduceEqDiff, Nat.reduceBEq, Nat.reduceAdd, Nat.reduceLeDiff, reduceIte, reduceCtorEq, tysA, tyA, Ty.enc, Ty.encs]))
      | (refine ⟨0, 2, 49, [], (σ.setBlk j (List.replicate n [AV.d (.int .i64 0), AV.d (.int .i64 0)]).flatten).delBlk j, (by simp [trnA, natA, setBlk_get]), fun j2 hj2 => ?_⟩; (try simp -implicitDefEqProofs only [h1, h2, h3, h4, rs_slices_Grow_api_LinTerm, Bool.not_eq_true', Bool.not_eq_false', go_sem, eq_self, Nat.reduceEqDiff, Nat.reduceBEq, Nat.reduceAdd, Nat.reduceLeDiff, reduceIte, reduceCtorEq, tysA, tyA, Ty.enc, Ty.encs]))
      | (refine Run.retR g_slices_Grow_api_LinTerm (Heap.le_refl _) ?_; simp -implicitDefEqProofs only [rs_slices_Grow_api_LinTerm, h1, h2, h3, h4, go_sem, eq_self, Nat.reduceEqDiff, Nat.reduceBEq, Nat.reduceAdd, Nat.reduceLeDiff, reduceIte, reduceCtorEq, tysA, tyA, Ty.enc, Ty.encs])
      | (refine xo_gs rfl (fun h => ?_) (fun h => ?_) <;> first | (cases h; done) | simp -implicitDefEqProofs only [h1, h2, h3, h4, rs_slices_Grow_api_LinTerm, Bool.not_eq_true', Bool.not_eq_false', go_sem, eq_self, Nat.reduceEqDiff, Nat.reduceBEq, Nat.reduceAdd, Nat.reduceLeDiff, reduceIte, reduceCtorEq, tysA, tyA, Ty.enc, Ty.encs])
      | (refine ⟨fun h => ?_, fun h => ?_⟩ <;> first | (cases h; done) | (simp -implicitDefEqProofs only [h]; done) | (try simp -implicitDefEqProofs only [h]))
      | fail))
    rw [del_set hj]
    simp only [setBlk_get] at hj2
    split at hj2
    · cases hj2
    · exact .inr ⟨j2, hj2, by simp, rfl⟩

theorem XAppM.mr {K : Kont} {F : Fm} {L : Lm} {σ σ0 : Heap} {d : Option Nat} {ts us : List (Int × Int)} {v x : AV} {bytes : Nat} (hm : MR σ0 ts v σ) (hx : x.rows = some (us.map tmR)) (hl : ts.length + us.length ≤ 1000000) (hb : bytes ≤ 10000)
    (h : ∀ v' σ', MR σ0 (ts ++ us) v' σ' → K (putO d v' F) L σ') : XAppM 49 2 bytes v x d K F L σ := by
  have happ : ∃ cs σ1, appmA σ 49 2 v = some (ts.length, cs, σ1) ∧ cs = prs ts ∧ σ1 = σ0 := by
    rcases hm with ⟨rfl, rfl, rfl⟩ | ⟨j, hj, rfl, rfl⟩
    · exact ⟨[], σ, rfl, rfl, rfl⟩
    · exact ⟨prs ts, (σ0.setBlk j (prs ts)).delBlk j, by simp [appmA, setBlk_get, prs_len], rfl, del_set hj⟩
  obtain ⟨cs, σ1, ha, rfl, rfl⟩ := happ
  cases us with
  | nil => exact XAppM.emp ha (by simpa using hx) (by simp at hl; omega) hb (h v σ (by simpa using hm))
  | cons y us =>
    refine XAppM.mk ha hx (rows_tm _) (by simp) (by simp at hl ⊢; omega) hb (fun j hj => h _ _ (.inr ⟨j, ?_, by simp, ?_⟩))
    · rcases hm with ⟨rfl, rfl, rfl⟩ | ⟨j', hj', rfl, rfl⟩
      · exact hj
      · simp only [setBlk_get] at hj
        split at hj
        · cases hj
        · exact hj
    · rw [newCells_tm, prs_append]

theorem dvs_prs : ∀ ts : List (Int × Int), dvs (prs ts) = some (ts.map tmR).flatten
  | [] => rfl
  | x :: l => by
    have := dvs_prs l
    simp only [prs, dvs, AV.dv, this, Option.bind_eq_bind, Option.bind_some]
    rfl
theorem chunk_tm : ∀ ts : List (Int × Int), chunk 2 ts.length (ts.map tmR).flatten = ts.map tmR
  | [] => rfl
  | x :: l => by
    have := chunk_tm l
    simp only [List.length_cons, chunk, List.map_cons, List.flatten_cons, tmR, List.cons_append, List.nil_append, List.take_succ_cons, List.take_zero, List.drop_succ_cons, List.drop_zero]
    rw [this]

theorem mil_le : (1000000 : Nat) ≤ maxLen := by decide +kernel
/-- A mutable row of terms that is handed back becomes data. -/
theorem Run.retMR {cx : Cx} {KK : AV → Heap → Prop} {k : List CI} {F : Fm} {L : Lm} {σ σ0 : Heap} {s : Nat} {ts : List (Int × Int)} (hg : Good cx) (hrs : cx.rs = [.t s]) (hm : MR σ0 ts (F s) σ) (hl : ts.length ≤ 1000000) (h : KK (tmsA ts) σ0) : Run cx KK (.code .ret :: k) F L σ := by
  rcases hm with ⟨rfl, hv, rfl⟩ | ⟨j, hj, hv, rfl⟩
  · refine Run.retP hg (Heap.le_refl _) ?_
    rw [hrs]
    simp only [retA, rvsA, rvA, hv, Option.bind_eq_bind, Option.bind_some, List.all_cons, List.all_nil, AV.noLp, Bool.and_self, if_true, Option.map_some, AV.plain]
    exact h
  · refine Run.freeze (i := j) (n := ts.length) (size := 2) (cs := prs ts) (ds := (ts.map tmR).flatten) (σ' := σ0) (L' := L) (F' := put s (tmsA ts) F) (by simp only [setBlk_get, if_true]) (dvs_prs ts) (prs_len ts) (Nat.le_trans hl mil_le) (fun t => ?_) (fun k cs hk => ⟨cs, hk, .inl rfl⟩) (fun r cs' hr => ?_) (fun t h => h) ?_
    · by_cases e : t = s
      · subst e
        right
        rw [hv, chunk_tm]
        simp [put, frz, tmsA]
      · left; simp [put, e]
    · have hne : r ≠ j := fun e => by rw [e, hj] at hr; cases hr
      exact ⟨hne, cs', by simp [setBlk_get, hne, hr], .inl rfl⟩
    · refine Run.retP hg (Heap.le_refl _) ?_
      rw [hrs]
      simp only [retA, rvsA, rvA, put_get, if_true, tmsA, Option.bind_eq_bind, Option.bind_some, List.all_cons, List.all_nil, AV.noLp, Bool.and_self, Option.map_some, AV.plain]
      exact h

theorem Concat_ok (a b : List (Int × Int)) (σ : Heap) (hl : a.length + b.length ≤ 1000000) : ACalls Tryd.prog 58 [.d (.sl [[.sl (a.map tmR)], [.sl (b.map tmR)]])] σ (fun v σ' => v = tmsA (a ++ b) ∧ σ' = σ) := by
  refine i_slices_Concat_api_LinTerm (by simp) ?_
  rw [argF_1]
  have w1 : IntKind.i64.wrap ((0 : Int) + (a.length : Int)) = (a.length : Int) := by rw [wrap_pos (by omega) (by omega)]; omega
  have w2 : IntKind.i64.wrap ((a.length : Int) + (b.length : Int)) = ((a.length + b.length : Nat) : Int) := wrap_add (by omega)
  have n1 : decide ((a.length : Int) < 0) = false := by simp
  have n2 : decide (((a.length + b.length : Nat) : Int) < 0) = false := by simp only [decide_eq_false_iff_not]; omega
  have q1 : IntKind.i64.wrap ((0 : Int) + 1) = 1 := by decide
  have q2 : IntKind.i64.wrap ((1 : Int) + 1) = 2 := by decide
  have c0 : decide ((0 : Int) < ((2 : Nat) : Int)) = true := by decide
  have c1 : decide ((1 : Int) < ((2 : Nat) : Int)) = true := by decide
  have c2 : decide ((2 : Int) < ((2 : Nat) : Int)) = false := by decide
  have i0 : Int.toNat 0 = 0 := rfl
  have i1 : Int.toNat 1 = 1 := rfl
  have l0 : ((0 : Int) ≤ 0) = True := by simp
  have l1 : ((0 : Int) ≤ 1) = True := by simp
  (repeat' (first
      | refine Run.seq ?_
      | refine Run.skip ?_
      | refine Run.block ?_
      | refine Run.blk ?_
      | refine Run.scope ?_
      | refine Run.scp ?_
      | (refine Run.exit rfl ?_)
      | (refine Run.reg mixed ?_; simp -implicitDefEqProofs only [w1, w2, n1, n2, q1, q2, c0, c1, c2, i0, i1, l0, l1, List.length_map, rs_slices_Concat_api_LinTerm, Bool.not_eq_true', Bool.not_eq_false', go_sem, eq_self, Nat.reduceEqDiff, Nat.reduceBEq, Nat.reduceAdd, Nat.reduceLeDiff, reduceIte, reduceCtorEq, tysA, tyA, Ty.enc, Ty.encs])
      | (refine Run.condM ?_; simp -implicitDefEqProofs only [w1, w2, n1, n2, q1, q2, c0, c1, c2, i0, i1, l0, l1, List.length_map, rs_slices_Concat_api_LinTerm, Bool.not_eq_true', Bool.not_eq_false', go_sem, eq_self, Nat.reduceEqDiff, Nat.reduceBEq, Nat.reduceAdd, Nat.reduceLeDiff, reduceIte, reduceCtorEq, tysA, tyA, Ty.enc, Ty.encs])
      | (refine Run.loop ?_; (try simp -implicitDefEqProofs only [w1, w2, n1, n2, q1, q2, c0, c1, c2, i0, i1, l0, l1, List.length_map, rs_slices_Concat_api_LinTerm, Bool.not_eq_true', Bool.not_eq_false', go_sem, eq_self, Nat.reduceEqDiff, Nat.reduceBEq, Nat.reduceAdd, Nat.reduceLeDiff, reduceIte, reduceCtorEq, tysA, tyA, Ty.enc, Ty.encs]))
      | (refine Run.again ?_; (try simp -implicitDefEqProofs only [w1, w2, n1, n2, q1, q2, c0, c1, c2, i0, i1, l0, l1, List.length_map, rs_slices_Concat_api_LinTerm, Bool.not_eq_true', Bool.not_eq_false', go_sem, eq_self, Nat.reduceEqDiff, Nat.reduceBEq, Nat.reduceAdd, Nat.reduceLeDiff, reduceIte, reduceCtorEq, tysA, tyA, Ty.enc, Ty.encs]))
      | (refine XCall.mk rfl (Grow_ok (a.length + b.length) σ hl) (fun v σ1 hm => ?_); (try simp -implicitDefEqProofs only [w1, w2, n1, n2, q1, q2, c0, c1, c2, i0, i1, l0, l1, List.length_map, rs_slices_Concat_api_LinTerm, Bool.not_eq_true', Bool.not_eq_false', go_sem, eq_self, Nat.reduceEqDiff, Nat.reduceBEq, Nat.reduceAdd, Nat.reduceLeDiff, reduceIte, reduceCtorEq, tysA, tyA, Ty.enc, Ty.encs]))
      | (refine XAppM.mr (us := a) hm (rows_d _) (by simp; omega) (by omega) (fun v2 σ2 hm2 => ?_); (try simp -implicitDefEqProofs only [w1, w2, n1, n2, q1, q2, c0, c1, c2, i0, i1, l0, l1, List.length_map, rs_slices_Concat_api_LinTerm, Bool.not_eq_true', Bool.not_eq_false', go_sem, eq_self, Nat.reduceEqDiff, Nat.reduceBEq, Nat.reduceAdd, Nat.reduceLeDiff, reduceIte, reduceCtorEq, tysA, tyA, Ty.enc, Ty.encs]))
      | (refine XAppM.mr (us := b) hm2 (rows_d _) (by simp; omega) (by omega) (fun v3 σ3 hm3 => ?_); (try simp -implicitDefEqProofs only [w1, w2, n1, n2, q1, q2, c0, c1, c2, i0, i1, l0, l1, List.length_map, rs_slices_Concat_api_LinTerm, Bool.not_eq_true', Bool.not_eq_false', go_sem, eq_self, Nat.reduceEqDiff, Nat.reduceBEq, Nat.reduceAdd, Nat.reduceLeDiff, reduceIte, reduceCtorEq, tysA, tyA, Ty.enc, Ty.encs]))
      | (refine xo_gs rfl (fun h => ?_) (fun h => ?_) <;> first | (cases h; done) | simp -implicitDefEqProofs only [w1, w2, n1, n2, q1, q2, c0, c1, c2, i0, i1, l0, l1, List.length_map, rs_slices_Concat_api_LinTerm, Bool.not_eq_true', Bool.not_eq_false', go_sem, eq_self, Nat.reduceEqDiff, Nat.reduceBEq, Nat.reduceAdd, Nat.reduceLeDiff, reduceIte, reduceCtorEq, tysA, tyA, Ty.enc, Ty.encs])
      | (refine ⟨fun h => ?_, fun h => ?_⟩ <;> first | (cases h; done) | (simp -implicitDefEqProofs only [h]; done) | (try simp -implicitDefEqProofs only [h]))
      | fail))
  exact Run.retMR g_slices_Concat_api_LinTerm rfl (s := 2) hm3 (by simp; omega) ⟨rfl, rfl⟩

theorem prs_wr : ∀ (l : List (Int × Int)) (q : Nat) (x : Int × Int) (c : Int), l[q]? = some x → wr (prs l) (q * 2 + 1) [.d (.int .i64 c)] = prs (l.set q (x.1, c))
  | [], q, x, c, h => by simp at h
  | y :: l, 0, x, c, h => by simp only [List.getElem?_cons_zero, Option.some.injEq] at h; subst h; simp [prs, wr]
  | y :: l, q + 1, x, c, h => by
    have := prs_wr l q x c (by simpa using h)
    rw [show (q + 1) * 2 + 1 = (q * 2 + 1) + 1 + 1 by omega]
    simp only [wr, prs, List.length_cons, List.length_nil, List.set_cons_succ, List.take_succ_cons, List.cons_append, List.cons.injEq, true_and] at this ⊢
    rw [← this, show q * 2 + 1 + 1 + 1 + (0 + 1) = q * 2 + 1 + (0 + 1) + 1 + 1 by omega]
    simp only [List.drop_succ_cons]

def scl (n : Int) (x : Int × Int) : Int × Int := (x.1, IntKind.i64.wrap (x.2 * n))

theorem times_ok (ts : List (Int × Int)) (n : Int) (σ : Heap) (hl : ts.length ≤ 1000000) : ACalls Tryd.prog 61 [tmsA ts, .d (.int .i64 n)] σ (fun v σ' => v = tmsA (ts.map (scl n)) ∧ σ' = σ) := by
  refine i_linear_times (by simp) ?_
  rw [argF_2, tmsA]
  (repeat' (first
      | refine Run.seq ?_
      | refine Run.skip ?_
      | refine Run.block ?_
      | refine Run.blk ?_
      | refine Run.scope ?_
      | refine Run.scp ?_
      | (refine Run.exit rfl ?_)
      | (refine Run.reg mixed ?_; simp -implicitDefEqProofs only [rs_linear_times, Bool.not_eq_true', Bool.not_eq_false', go_sem, eq_self, Nat.reduceEqDiff, Nat.reduceBEq, Nat.reduceAdd, Nat.reduceLeDiff, reduceIte, reduceCtorEq, tysA, tyA, Ty.enc, Ty.encs])
      | (refine Run.condM ?_; simp -implicitDefEqProofs only [rs_linear_times, Bool.not_eq_true', Bool.not_eq_false', go_sem, eq_self, Nat.reduceEqDiff, Nat.reduceBEq, Nat.reduceAdd, Nat.reduceLeDiff, reduceIte, reduceCtorEq, tysA, tyA, Ty.enc, Ty.encs])
      | (refine XCall.mk rfl (Clone_ok ts σ hl) (fun v σ1 hm => ?_); (try simp -implicitDefEqProofs only [rs_linear_times, Bool.not_eq_true', Bool.not_eq_false', go_sem, eq_self, Nat.reduceEqDiff, Nat.reduceBEq, Nat.reduceAdd, Nat.reduceLeDiff, reduceIte, reduceCtorEq, tysA, tyA, Ty.enc, Ty.encs]))
      | (refine xo_gs rfl (fun h => ?_) (fun h => ?_) <;> first | (cases h; done) | simp -implicitDefEqProofs only [rs_linear_times, Bool.not_eq_true', Bool.not_eq_false', go_sem, eq_self, Nat.reduceEqDiff, Nat.reduceBEq, Nat.reduceAdd, Nat.reduceLeDiff, reduceIte, reduceCtorEq, tysA, tyA, Ty.enc, Ty.encs])
      | (refine ⟨fun h => ?_, fun h => ?_⟩ <;> first | (cases h; done) | (simp -implicitDefEqProofs only [h]; done) | (try simp -implicitDefEqProofs only [h]))
      | fail))
  rcases hm with ⟨rfl, rfl, rfl⟩ | ⟨j, hj, rfl, rfl⟩
  · have c0 : decide ((0 : Int) < 0) = false := by decide
    simp -implicitDefEqProofs only [go_sem, eq_self, Nat.reduceEqDiff, Nat.reduceBEq, Nat.reduceAdd, Nat.reduceLeDiff, reduceIte, reduceCtorEq, tysA, tyA, Ty.enc, Ty.encs]
    (repeat' (first
      | refine Run.seq ?_
      | refine Run.skip ?_
      | refine Run.block ?_
      | refine Run.blk ?_
      | refine Run.scope ?_
      | refine Run.scp ?_
      | (refine Run.exit rfl ?_)
      | (refine Run.reg mixed ?_; simp -implicitDefEqProofs only [c0, rs_linear_times, Bool.not_eq_true', Bool.not_eq_false', go_sem, eq_self, Nat.reduceEqDiff, Nat.reduceBEq, Nat.reduceAdd, Nat.reduceLeDiff, reduceIte, reduceCtorEq, tysA, tyA, Ty.enc, Ty.encs])
      | (refine Run.condM ?_; simp -implicitDefEqProofs only [c0, rs_linear_times, Bool.not_eq_true', Bool.not_eq_false', go_sem, eq_self, Nat.reduceEqDiff, Nat.reduceBEq, Nat.reduceAdd, Nat.reduceLeDiff, reduceIte, reduceCtorEq, tysA, tyA, Ty.enc, Ty.encs])
      | (refine Run.loop ?_; (try simp -implicitDefEqProofs only [c0, rs_linear_times, Bool.not_eq_true', Bool.not_eq_false', go_sem, eq_self, Nat.reduceEqDiff, Nat.reduceBEq, Nat.reduceAdd, Nat.reduceLeDiff, reduceIte, reduceCtorEq, tysA, tyA, Ty.enc, Ty.encs]))
      | (refine xo_gs rfl (fun h => ?_) (fun h => ?_) <;> first | (cases h; done) | simp -implicitDefEqProofs only [c0, rs_linear_times, Bool.not_eq_true', Bool.not_eq_false', go_sem, eq_self, Nat.reduceEqDiff, Nat.reduceBEq, Nat.reduceAdd, Nat.reduceLeDiff, reduceIte, reduceCtorEq, tysA, tyA, Ty.enc, Ty.encs])
      | (refine ⟨fun h => ?_, fun h => ?_⟩ <;> first | (cases h; done) | (simp -implicitDefEqProofs only [h]; done) | (try simp -implicitDefEqProofs only [h]))
      | fail))
    exact Run.retMR g_linear_times rfl (.inl ⟨rfl, rfl, rfl⟩) (by simp) ⟨rfl, rfl⟩
  · simp -implicitDefEqProofs only [go_sem, eq_self, Nat.reduceEqDiff, Nat.reduceBEq, Nat.reduceAdd, Nat.reduceLeDiff, reduceIte, reduceCtorEq, tysA, tyA, Ty.enc, Ty.encs]
    (repeat' (first
      | refine Run.seq ?_
      | refine Run.skip ?_
      | refine Run.block ?_
      | refine Run.blk ?_
      | refine Run.scope ?_
      | refine Run.scp ?_
      | (refine Run.exit rfl ?_)
      | (refine Run.reg mixed ?_; simp -implicitDefEqProofs only [rs_linear_times, Bool.not_eq_true', Bool.not_eq_false', go_sem, eq_self, Nat.reduceEqDiff, Nat.reduceBEq, Nat.reduceAdd, Nat.reduceLeDiff, reduceIte, reduceCtorEq, tysA, tyA, Ty.enc, Ty.encs])
      | (refine Run.condM ?_; simp -implicitDefEqProofs only [rs_linear_times, Bool.not_eq_true', Bool.not_eq_false', go_sem, eq_self, Nat.reduceEqDiff, Nat.reduceBEq, Nat.reduceAdd, Nat.reduceLeDiff, reduceIte, reduceCtorEq, tysA, tyA, Ty.enc, Ty.encs])
      | (refine xo_gs rfl (fun h => ?_) (fun h => ?_) <;> first | (cases h; done) | simp -implicitDefEqProofs only [rs_linear_times, Bool.not_eq_true', Bool.not_eq_false', go_sem, eq_self, Nat.reduceEqDiff, Nat.reduceBEq, Nat.reduceAdd, Nat.reduceLeDiff, reduceIte, reduceCtorEq, tysA, tyA, Ty.enc, Ty.encs])
      | (refine ⟨fun h => ?_, fun h => ?_⟩ <;> first | (cases h; done) | (simp -implicitDefEqProofs only [h]; done) | (try simp -implicitDefEqProofs only [h]))
      | fail))
    refine Run.loopA ?_
    refine Run.loopI ((fun (a1 : AV) (a5 : AV) (a10 : AV) => fun (i : Nat) => put 1 a1 (put 5 a5 (put 10 a10 (put 11 (.d (.int .i64 i)) U)))) _ _ _) (fun _ => E) (fun i => σ.setBlk j (prs ((ts.take i).map (scl n) ++ ts.drop i))) (fun i => i ≤ ts.length) (fun i => ts.length - i) ?_ 0 (by simp)
    rintro i hi ih
    by_cases hlt : i < ts.length
    · obtain ⟨x, hx⟩ := ex_at hlt
      have hw1 := wrap_succ (show i + 1 ≤ 9000000000000000000 by omega)
      have hlen : ((ts.take i).map (scl n)).length = i := by simp; omega
      have hget : ((ts.take i).map (scl n) ++ ts.drop i)[i]? = some x := by
        rw [List.getElem?_append_right (by omega), hlen, Nat.sub_self, List.getElem?_drop, Nat.add_zero, hx]
      obtain ⟨g1, g2⟩ := prs_get _ _ _ hget
      have hix : ((i : Int) < (ts.length : Int)) = True := by simp; omega
      have hle : (i * 2 + 1 + (0 + 1) ≤ (prs ((ts.take i).map (scl n) ++ ts.drop i)).length) = True := by rw [prs_len]; simp; omega
      (repeat' (first
      | refine Run.seq ?_
      | refine Run.skip ?_
      | refine Run.block ?_
      | refine Run.blk ?_
      | refine Run.scope ?_
      | refine Run.scp ?_
      | (refine Run.exit rfl ?_)
      | (refine Run.reg mixed ?_; simp -implicitDefEqProofs only [lt_t hlt, hw1, hix, g2, hle, rs_linear_times, Bool.not_eq_true', Bool.not_eq_false', go_sem, eq_self, Nat.reduceEqDiff, Nat.reduceBEq, Nat.reduceAdd, Nat.reduceLeDiff, reduceIte, reduceCtorEq, tysA, tyA, Ty.enc, Ty.encs])
      | (refine Run.condM ?_; simp -implicitDefEqProofs only [lt_t hlt, hw1, hix, g2, hle, rs_linear_times, Bool.not_eq_true', Bool.not_eq_false', go_sem, eq_self, Nat.reduceEqDiff, Nat.reduceBEq, Nat.reduceAdd, Nat.reduceLeDiff, reduceIte, reduceCtorEq, tysA, tyA, Ty.enc, Ty.encs])
      | (refine xo_gs rfl (fun h => ?_) (fun h => ?_) <;> first | (cases h; done) | simp -implicitDefEqProofs only [lt_t hlt, hw1, hix, g2, hle, rs_linear_times, Bool.not_eq_true', Bool.not_eq_false', go_sem, eq_self, Nat.reduceEqDiff, Nat.reduceBEq, Nat.reduceAdd, Nat.reduceLeDiff, reduceIte, reduceCtorEq, tysA, tyA, Ty.enc, Ty.encs])
      | (refine ⟨fun h => ?_, fun h => ?_⟩ <;> first | (cases h; done) | (simp -implicitDefEqProofs only [h]; done) | (try simp -implicitDefEqProofs only [h]))
      | fail))
      have hst : ((ts.take i).map (scl n) ++ ts.drop i).set i (x.1, IntKind.i64.wrap (x.2 * n)) = (ts.take (i + 1)).map (scl n) ++ ts.drop (i + 1) := by
        rw [List.set_append_right _ _ (by omega), hlen, Nat.sub_self, drop_at hx, List.set_cons_zero, List.take_add_one, hx]
        simp [scl]
      have hpw := prs_wr _ i _ (IntKind.i64.wrap (x.2 * n)) hget
      simp only [wr, List.length_cons, List.length_nil, Nat.zero_add] at hpw
      rw [hpw, hst]
      exact ih (i + 1) hlt (by omega)
    · (repeat' (first
      | refine Run.seq ?_
      | refine Run.skip ?_
      | refine Run.block ?_
      | refine Run.blk ?_
      | refine Run.scope ?_
      | refine Run.scp ?_
      | (refine Run.exit rfl ?_)
      | (refine Run.reg mixed ?_; simp -implicitDefEqProofs only [lt_f hlt, rs_linear_times, Bool.not_eq_true', Bool.not_eq_false', go_sem, eq_self, Nat.reduceEqDiff, Nat.reduceBEq, Nat.reduceAdd, Nat.reduceLeDiff, reduceIte, reduceCtorEq, tysA, tyA, Ty.enc, Ty.encs])
      | (refine Run.condM ?_; simp -implicitDefEqProofs only [lt_f hlt, rs_linear_times, Bool.not_eq_true', Bool.not_eq_false', go_sem, eq_self, Nat.reduceEqDiff, Nat.reduceBEq, Nat.reduceAdd, Nat.reduceLeDiff, reduceIte, reduceCtorEq, tysA, tyA, Ty.enc, Ty.encs])
      | (refine xo_gs rfl (fun h => ?_) (fun h => ?_) <;> first | (cases h; done) | simp -implicitDefEqProofs only [lt_f hlt, rs_linear_times, Bool.not_eq_true', Bool.not_eq_false', go_sem, eq_self, Nat.reduceEqDiff, Nat.reduceBEq, Nat.reduceAdd, Nat.reduceLeDiff, reduceIte, reduceCtorEq, tysA, tyA, Ty.enc, Ty.encs])
      | (refine ⟨fun h => ?_, fun h => ?_⟩ <;> first | (cases h; done) | (simp -implicitDefEqProofs only [h]; done) | (try simp -implicitDefEqProofs only [h]))
      | fail))
      have : i = ts.length := by omega
      subst this
      refine Run.retMR g_linear_times rfl (ts := ts.map (scl n)) (.inr ⟨j, hj, ?_, ?_⟩) (by simpa using hl) ⟨rfl, rfl⟩
      · simp [put]
      · simp
end Go.Ab
