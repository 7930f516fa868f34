/- The reference's plus, checked, Canonical, Add, Sub, Scale. Conditions: none. -/
import Derived.Test.YtdbpmhfepfpldaaDoorXGh
import Derived.Test.YtdbpmhfepfpldaaDoorXGl
set_option linter.unusedSimpArgs false
set_option linter.unusedVariables false
namespace Go.Ab
open Go.Proofs

/-- The cells of local variables, with less known of them. -/
theorem Run.plainL {cx : Cx} {KK : AV → Heap → Prop} {k : List CI} {F : Fm} {L L' : Lm} {σ : Heap} (hL : ∀ q cs', L' q = some cs' → ∃ cs, L q = some cs ∧ (cs' = cs ∨ cs' = AV.plains cs)) (h : Run cx KK k F L' σ) : Run cx KK k F L σ := by
  intro items base g lam Pr a w0 w b cs0 hi0 hf hb hk
  refine h items base g lam Pr a w0 w b cs0 hi0 ⟨hf.tm, hf.sz, hf.df, fun q cs' hq => ?_, hf.inj, hf.npr, hf.rel⟩ hb hk
  obtain ⟨cs, hc, hp⟩ := hL q cs' hq
  obtain ⟨hok, b', vs, ty, h1, h2, h3, h4⟩ := hf.loc q cs hc
  refine ⟨?_, b', vs, ty, h1, h2, h3, ?_⟩
  · rcases hp with rfl | rfl
    · exact hok
    · simp only [cellsOk, List.all_eq_true] at hok ⊢
      intro v hv
      obtain ⟨i, hi, rfl⟩ := List.getElem_of_mem hv
      have h1 := plains_get cs i
      rw [List.getElem?_eq_getElem hi] at h1
      cases hcs : cs[i]? with
      | none => rw [hcs] at h1; cases h1
      | some c' => rw [hcs] at h1; simp only [Option.map_some, Option.some.injEq] at h1; rw [h1]; exact plain_cell (hok c' (List.mem_of_getElem? hcs))
  · rcases hp with rfl | rfl
    · exact h4
    · exact h4.plain

/-- A mutable row of terms in a local form becomes data. -/
theorem Run.frzMR {cx : Cx} {KK : AV → Heap → Prop} {k : List CI} {F : Fm} {L : Lm} {σ σ0 : Heap} {ts : Tms} {v : AV} {x : DV} (k0 : Nat) (hm : MR σ0 ts v σ) (hl : ts.length ≤ 1000000) (hL : L k0 = some [.d x, v])
    (h : Run cx KK k F (putL k0 [.d x, tmsA ts] L) σ0) : Run cx KK k F L σ := by
  rcases hm with ⟨rfl, rfl, rfl⟩ | ⟨j, hj, rfl, rfl⟩
  · refine Run.plainL (fun q cs' hq => ?_) h
    simp only [putL] at hq
    split at hq
    · rename_i e; subst e; cases hq; exact ⟨_, hL, .inr rfl⟩
    · exact ⟨_, hq, .inl rfl⟩
  · refine Run.freeze (i := j) (n := ts.length) (size := 2) (cs := prs ts) (ds := (ts.map tmR).flatten) (σ' := σ0) (L' := putL k0 [.d x, tmsA ts] L) (F' := F) (by simp only [setBlk_get, if_true]) (dvs_prs ts) (prs_len ts) (Nat.le_trans hl mil_le) (fun t => .inl rfl) (fun q cs' hq => ?_) (fun r cs' hr => ?_) (fun t h => h) h
    · simp only [putL] at hq
      split at hq
      · rename_i e; subst e; cases hq
        refine ⟨_, hL, .inr ?_⟩
        rw [chunk_tm]
        simp [frzs, frz, tmsA]
      · exact ⟨_, hq, .inl rfl⟩
    · have hne : r ≠ j := fun e => by rw [e, hj] at hr; cases hr
      exact ⟨hne, cs', by simp [setBlk_get, hne, hr], .inl rfl⟩

theorem r19_checked_ok (l : Ln) (σ : Heap) : ACalls Tryd.prog 59 [linA l] σ (fun v σ' => v = resA (chk l.c l.ts) ∧ σ' = σ) := by
  obtain ⟨c, ts⟩ := l
  refine i_r19_checked (by simp) ?_
  rw [argF_1, linA]
  cases hv : validP ⟨c, ts⟩ with
  | false =>
    (repeat' (first
      | refine Run.seq ?_
      | refine Run.skip ?_
      | refine Run.block ?_
      | refine Run.blk ?_
      | refine Run.scope ?_
      | refine Run.scp ?_
      | (refine Run.exit rfl ?_)
      | (refine Run.reg mixed ?_; simp -implicitDefEqProofs only [hv, rs_r19_checked, Bool.not_eq_true', Bool.not_eq_false', go_sem, eq_self, Nat.reduceEqDiff, Nat.reduceBEq, Nat.reduceAdd, Nat.reduceLeDiff, reduceIte, reduceCtorEq, tysA, tyA, Ty.enc, Ty.encs])
      | (refine Run.condM ?_; simp -implicitDefEqProofs only [hv, rs_r19_checked, Bool.not_eq_true', Bool.not_eq_false', go_sem, eq_self, Nat.reduceEqDiff, Nat.reduceBEq, Nat.reduceAdd, Nat.reduceLeDiff, reduceIte, reduceCtorEq, tysA, tyA, Ty.enc, Ty.encs])
      | (refine Run.retP g_r19_checked (Heap.le_refl _) ?_; simp -implicitDefEqProofs only [rs_r19_checked, hv, go_sem, eq_self, Nat.reduceEqDiff, Nat.reduceBEq, Nat.reduceAdd, Nat.reduceLeDiff, reduceIte, reduceCtorEq, tysA, tyA, Ty.enc, Ty.encs])
      | (refine XCall.det (r19_Valid_ok ⟨c, ts⟩ _) ?_; simp -implicitDefEqProofs only [hv, rs_r19_checked, Bool.not_eq_true', Bool.not_eq_false', go_sem, eq_self, Nat.reduceEqDiff, Nat.reduceBEq, Nat.reduceAdd, Nat.reduceLeDiff, reduceIte, reduceCtorEq, tysA, tyA, Ty.enc, Ty.encs])
      | (refine xo_gs rfl (fun h => ?_) (fun h => ?_) <;> first | (cases h; done) | simp -implicitDefEqProofs only [hv, rs_r19_checked, Bool.not_eq_true', Bool.not_eq_false', go_sem, eq_self, Nat.reduceEqDiff, Nat.reduceBEq, Nat.reduceAdd, Nat.reduceLeDiff, reduceIte, reduceCtorEq, tysA, tyA, Ty.enc, Ty.encs])
      | (refine ⟨fun h => ?_, fun h => ?_⟩ <;> first | (cases h; done) | (simp -implicitDefEqProofs only [h]; done) | (try simp -implicitDefEqProofs only [h]))
      | fail))
    simp [chk, hv, resA, linA]
  | true =>
    (repeat' (first
      | refine Run.seq ?_
      | refine Run.skip ?_
      | refine Run.block ?_
      | refine Run.blk ?_
      | refine Run.scope ?_
      | refine Run.scp ?_
      | (refine Run.exit rfl ?_)
      | (refine Run.reg mixed ?_; simp -implicitDefEqProofs only [hv, rs_r19_checked, Bool.not_eq_true', Bool.not_eq_false', go_sem, eq_self, Nat.reduceEqDiff, Nat.reduceBEq, Nat.reduceAdd, Nat.reduceLeDiff, reduceIte, reduceCtorEq, tysA, tyA, Ty.enc, Ty.encs])
      | (refine Run.condM ?_; simp -implicitDefEqProofs only [hv, rs_r19_checked, Bool.not_eq_true', Bool.not_eq_false', go_sem, eq_self, Nat.reduceEqDiff, Nat.reduceBEq, Nat.reduceAdd, Nat.reduceLeDiff, reduceIte, reduceCtorEq, tysA, tyA, Ty.enc, Ty.encs])
      | (refine Run.retP g_r19_checked (Heap.le_refl _) ?_; simp -implicitDefEqProofs only [rs_r19_checked, hv, go_sem, eq_self, Nat.reduceEqDiff, Nat.reduceBEq, Nat.reduceAdd, Nat.reduceLeDiff, reduceIte, reduceCtorEq, tysA, tyA, Ty.enc, Ty.encs])
      | (refine XCall.det (r19_Valid_ok ⟨c, ts⟩ _) ?_; simp -implicitDefEqProofs only [hv, rs_r19_checked, Bool.not_eq_true', Bool.not_eq_false', go_sem, eq_self, Nat.reduceEqDiff, Nat.reduceBEq, Nat.reduceAdd, Nat.reduceLeDiff, reduceIte, reduceCtorEq, tysA, tyA, Ty.enc, Ty.encs])
      | (refine xo_gs rfl (fun h => ?_) (fun h => ?_) <;> first | (cases h; done) | simp -implicitDefEqProofs only [hv, rs_r19_checked, Bool.not_eq_true', Bool.not_eq_false', go_sem, eq_self, Nat.reduceEqDiff, Nat.reduceBEq, Nat.reduceAdd, Nat.reduceLeDiff, reduceIte, reduceCtorEq, tysA, tyA, Ty.enc, Ty.encs])
      | (refine ⟨fun h => ?_, fun h => ?_⟩ <;> first | (cases h; done) | (simp -implicitDefEqProofs only [h]; done) | (try simp -implicitDefEqProofs only [h]))
      | fail))
    simp [chk, hv, resA, linA]

set_option maxHeartbeats 1000000 in
theorem r19_plus_ok (l m : Ln) (n B : Int) (σ : Heap) (hB0 : 0 ≤ B) (hB1 : B ≤ 1125899906842624) (hB : Bnd B l.ts) (hD : Bnd 1099511627776 (m.ts.map (mulT n))) (hl : l.ts.length ≤ 1000) (hml : m.ts.length ≤ 1000)
    (hc1 : IntKind.i64.wrap (n * m.c) = n * m.c) (hc2 : IntKind.i64.wrap (l.c + n * m.c) = l.c + n * m.c) :
    ACalls Tryd.prog 60 [linA l, linA m, .d (.int .i64 n)] σ (fun v σ' => v = linA ⟨l.c + n * m.c, addAll l.ts (m.ts.map (mulT n))⟩ ∧ σ' = σ) := by
  obtain ⟨c, ts⟩ := l
  obtain ⟨d, us⟩ := m
  simp only at hB hD hl hml hc1 hc2
  refine i_r19_plus (by simp) ?_
  rw [argF_3]
  simp only [linA]
  (repeat' (first
      | refine Run.seq ?_
      | refine Run.skip ?_
      | refine Run.block ?_
      | refine Run.blk ?_
      | refine Run.scope ?_
      | refine Run.scp ?_
      | (refine Run.exit rfl ?_)
      | (refine Run.reg mixed ?_; simp -implicitDefEqProofs only [List.length_map, hc1, hc2, rs_r19_plus, Bool.not_eq_true', Bool.not_eq_false', go_sem, eq_self, Nat.reduceEqDiff, Nat.reduceBEq, Nat.reduceAdd, Nat.reduceLeDiff, reduceIte, reduceCtorEq, tysA, tyA, Ty.enc, Ty.encs])
      | (refine Run.condM ?_; simp -implicitDefEqProofs only [List.length_map, hc1, hc2, rs_r19_plus, Bool.not_eq_true', Bool.not_eq_false', go_sem, eq_self, Nat.reduceEqDiff, Nat.reduceBEq, Nat.reduceAdd, Nat.reduceLeDiff, reduceIte, reduceCtorEq, tysA, tyA, Ty.enc, Ty.encs])
      | (refine XAppM.mr (us := ts) (.inl ⟨rfl, rfl, rfl⟩) (rows_d _) (by simp; omega) (by omega) (fun v0 σ1 hm0 => ?_); (try simp -implicitDefEqProofs only [List.length_map, hc1, hc2, rs_r19_plus, Bool.not_eq_true', Bool.not_eq_false', go_sem, eq_self, Nat.reduceEqDiff, Nat.reduceBEq, Nat.reduceAdd, Nat.reduceLeDiff, reduceIte, reduceCtorEq, tysA, tyA, Ty.enc, Ty.encs]))
      | ((simp -implicitDefEqProofs only [hm0.noLp.2.2.1, hm0.noLp.2.1, hc1, hc2, go_sem, eq_self, Nat.reduceEqDiff, Nat.reduceBEq, Nat.reduceAdd, Nat.reduceLeDiff, reduceIte, reduceCtorEq, tysA, tyA, Ty.enc, Ty.encs]); (try simp -implicitDefEqProofs only [List.length_map, hc1, hc2, rs_r19_plus, Bool.not_eq_true', Bool.not_eq_false', go_sem, eq_self, Nat.reduceEqDiff, Nat.reduceBEq, Nat.reduceAdd, Nat.reduceLeDiff, reduceIte, reduceCtorEq, tysA, tyA, Ty.enc, Ty.encs]))
      | (refine xo_gs rfl (fun h => ?_) (fun h => ?_) <;> first | (cases h; done) | simp -implicitDefEqProofs only [List.length_map, hc1, hc2, rs_r19_plus, Bool.not_eq_true', Bool.not_eq_false', go_sem, eq_self, Nat.reduceEqDiff, Nat.reduceBEq, Nat.reduceAdd, Nat.reduceLeDiff, reduceIte, reduceCtorEq, tysA, tyA, Ty.enc, Ty.encs])
      | (refine ⟨fun h => ?_, fun h => ?_⟩ <;> first | (cases h; done) | (simp -implicitDefEqProofs only [h]; done) | (try simp -implicitDefEqProofs only [h]))
      | fail))
  refine Run.loopA ?_
  refine Run.loopI ((fun (a2 : AV) (a6 : AV) (a7 : AV) (a22 : AV) (a23 : AV) => fun (y : Nat × AV × Heap) => put 2 a2 (put 6 a6 (put 7 a7 (put 22 a22 (put 23 a23 (put 24 (.d (.int .i64 y.1)) U)))))) _ _ _ _ _) (fun y => putL 6 [.d (.int .i64 0), .nils] (putL 7 [.d (.int .i64 (c + n * d)), y.2.1] E)) (fun y => y.2.2)
    (fun y => y.1 ≤ us.length ∧ MR σ (addAll ts ((us.take y.1).map (mulT n))) y.2.1 y.2.2) (fun y => us.length - y.1) ?_ (0, v0, σ1) ⟨by simp, by simpa [addAll] using hm0⟩
  rintro ⟨i, v, σ2⟩ ⟨hi, hm⟩ ih
  simp only at hi hm
  have hacc := addAll_bnd (l := (us.take i).map (mulT n)) hB (D := 1099511627776) (by omega) (fun x hx => hD x (List.map_subset _ (List.take_subset _ _) hx))
  have hal := addAll_len ((us.take i).map (mulT n)) ts
  have hlt' : ((us.take i).map (mulT n)).length = i := by simp; omega
  by_cases hlt : i < us.length
  · obtain ⟨x, hx⟩ := ex_at hlt
    have hw1 := wrap_succ (show i + 1 ≤ 9000000000000000000 by omega)
    have hx' := tm_at hx
    have hxb := hD (mulT n x) (List.mem_map.2 ⟨x, List.mem_of_getElem? hx, rfl⟩)
    simp only [mulT] at hxb
    have hcm : n * x.2 = x.2 * n := Int.mul_comm ..
    have hwm : IntKind.i64.wrap (n * x.2) = x.2 * n := by rw [hcm]; exact wrap_id (by omega) (by omega)
    have hws : ∀ y ∈ addAll ts ((us.take i).map (mulT n)), IntKind.i64.wrap (y.2 + x.2 * n) = y.2 + x.2 * n := fun y hy => by
      have := hacc y hy
      rw [hlt'] at this
      exact wrap_id (by omega) (by omega)
    (repeat' (first
      | refine Run.seq ?_
      | refine Run.skip ?_
      | refine Run.block ?_
      | refine Run.blk ?_
      | refine Run.scope ?_
      | refine Run.scp ?_
      | (refine Run.exit rfl ?_)
      | (refine Run.reg mixed ?_; simp -implicitDefEqProofs only [List.length_map, lt_t hlt, hx', hw1, hwm, hm.noLp.2.2.1, hm.noLp.2.1, hm.noLp.2.2.2, rs_r19_plus, Bool.not_eq_true', Bool.not_eq_false', go_sem, eq_self, Nat.reduceEqDiff, Nat.reduceBEq, Nat.reduceAdd, Nat.reduceLeDiff, reduceIte, reduceCtorEq, tysA, tyA, Ty.enc, Ty.encs])
      | (refine Run.condM ?_; simp -implicitDefEqProofs only [List.length_map, lt_t hlt, hx', hw1, hwm, hm.noLp.2.2.1, hm.noLp.2.1, hm.noLp.2.2.2, rs_r19_plus, Bool.not_eq_true', Bool.not_eq_false', go_sem, eq_self, Nat.reduceEqDiff, Nat.reduceBEq, Nat.reduceAdd, Nat.reduceLeDiff, reduceIte, reduceCtorEq, tysA, tyA, Ty.enc, Ty.encs])
      | (refine XCall.mk (by simp only [List.all_cons, List.all_nil, hm.noLp.1, noLp_d, Bool.and_self]) (sum_ok x.1 (x.2 * n) hm (by omega) hws) (fun v2 σ3 hm2 => ?_); (try simp -implicitDefEqProofs only [List.length_map, lt_t hlt, hx', hw1, hwm, hm.noLp.2.2.1, hm.noLp.2.1, hm.noLp.2.2.2, rs_r19_plus, Bool.not_eq_true', Bool.not_eq_false', go_sem, eq_self, Nat.reduceEqDiff, Nat.reduceBEq, Nat.reduceAdd, Nat.reduceLeDiff, reduceIte, reduceCtorEq, tysA, tyA, Ty.enc, Ty.encs]))
      | ((simp -implicitDefEqProofs only [hm2.noLp.2.2.1, hm2.noLp.2.1, go_sem, eq_self, Nat.reduceEqDiff, Nat.reduceBEq, Nat.reduceAdd, Nat.reduceLeDiff, reduceIte, reduceCtorEq, tysA, tyA, Ty.enc, Ty.encs]); (try simp -implicitDefEqProofs only [List.length_map, lt_t hlt, hx', hw1, hwm, hm.noLp.2.2.1, hm.noLp.2.1, hm.noLp.2.2.2, rs_r19_plus, Bool.not_eq_true', Bool.not_eq_false', go_sem, eq_self, Nat.reduceEqDiff, Nat.reduceBEq, Nat.reduceAdd, Nat.reduceLeDiff, reduceIte, reduceCtorEq, tysA, tyA, Ty.enc, Ty.encs]))
      | (refine xo_gs rfl (fun h => ?_) (fun h => ?_) <;> first | (cases h; done) | simp -implicitDefEqProofs only [List.length_map, lt_t hlt, hx', hw1, hwm, hm.noLp.2.2.1, hm.noLp.2.1, hm.noLp.2.2.2, rs_r19_plus, Bool.not_eq_true', Bool.not_eq_false', go_sem, eq_self, Nat.reduceEqDiff, Nat.reduceBEq, Nat.reduceAdd, Nat.reduceLeDiff, reduceIte, reduceCtorEq, tysA, tyA, Ty.enc, Ty.encs])
      | (refine ⟨fun h => ?_, fun h => ?_⟩ <;> first | (cases h; done) | (simp -implicitDefEqProofs only [h]; done) | (try simp -implicitDefEqProofs only [h]))
      | fail))
    refine Run.prune [2, 6, 7, 22, 23, 24] ?_; simp -implicitDefEqProofs only [go_sem, eq_self, Nat.reduceEqDiff, Nat.reduceBEq, Nat.reduceAdd, Nat.reduceLeDiff, reduceIte, reduceCtorEq, tysA, tyA, Ty.enc, Ty.encs]
    refine ih (i + 1, v2, σ3) ⟨by simp only; omega, ?_⟩ (by simp only; omega)
    simp only
    rw [List.take_add_one, hx, List.map_append]
    simp only [Option.toList_some, List.map_cons, List.map_nil]
    rw [addAll_snoc]
    exact hm2
  · have : i = us.length := by omega
    subst this
    rw [List.take_length] at hm hal
    refine Run.frzMR 7 hm (by simp at hal; omega) rfl ?_
    (repeat' (first
      | refine Run.seq ?_
      | refine Run.skip ?_
      | refine Run.block ?_
      | refine Run.blk ?_
      | refine Run.scope ?_
      | refine Run.scp ?_
      | (refine Run.exit rfl ?_)
      | (refine Run.reg mixed ?_; simp -implicitDefEqProofs only [List.length_map, lt_f hlt, tmsA, rs_r19_plus, Bool.not_eq_true', Bool.not_eq_false', go_sem, eq_self, Nat.reduceEqDiff, Nat.reduceBEq, Nat.reduceAdd, Nat.reduceLeDiff, reduceIte, reduceCtorEq, tysA, tyA, Ty.enc, Ty.encs])
      | (refine Run.condM ?_; simp -implicitDefEqProofs only [List.length_map, lt_f hlt, tmsA, rs_r19_plus, Bool.not_eq_true', Bool.not_eq_false', go_sem, eq_self, Nat.reduceEqDiff, Nat.reduceBEq, Nat.reduceAdd, Nat.reduceLeDiff, reduceIte, reduceCtorEq, tysA, tyA, Ty.enc, Ty.encs])
      | (refine Run.retP g_r19_plus (Heap.le_refl _) ?_; simp -implicitDefEqProofs only [rs_r19_plus, List.length_map, lt_f hlt, tmsA, go_sem, eq_self, Nat.reduceEqDiff, Nat.reduceBEq, Nat.reduceAdd, Nat.reduceLeDiff, reduceIte, reduceCtorEq, tysA, tyA, Ty.enc, Ty.encs])
      | (refine xo_gs rfl (fun h => ?_) (fun h => ?_) <;> first | (cases h; done) | simp -implicitDefEqProofs only [List.length_map, lt_f hlt, tmsA, rs_r19_plus, Bool.not_eq_true', Bool.not_eq_false', go_sem, eq_self, Nat.reduceEqDiff, Nat.reduceBEq, Nat.reduceAdd, Nat.reduceLeDiff, reduceIte, reduceCtorEq, tysA, tyA, Ty.enc, Ty.encs])
      | (refine ⟨fun h => ?_, fun h => ?_⟩ <;> first | (cases h; done) | (simp -implicitDefEqProofs only [h]; done) | (try simp -implicitDefEqProofs only [h]))
      | fail))

theorem r19_Add_ok (l m : Ln) (σ : Heap) : ACalls Tryd.prog 28 [linA l, linA m] σ (fun v σ' => v = resA (addP l m) ∧ σ' = σ) := by
  obtain ⟨c, ts⟩ := l
  obtain ⟨d, us⟩ := m
  refine i_r19_Add (by simp) ?_
  rw [argF_2, linA, linA]
  cases hv : validP ⟨c, ts⟩ with
  | false =>
    (repeat' (first
      | refine Run.seq ?_
      | refine Run.skip ?_
      | refine Run.block ?_
      | refine Run.blk ?_
      | refine Run.scope ?_
      | refine Run.scp ?_
      | (refine Run.exit rfl ?_)
      | (refine Run.reg mixed ?_; simp -implicitDefEqProofs only [hv, rs_r19_Add, Bool.not_eq_true', Bool.not_eq_false', go_sem, eq_self, Nat.reduceEqDiff, Nat.reduceBEq, Nat.reduceAdd, Nat.reduceLeDiff, reduceIte, reduceCtorEq, tysA, tyA, Ty.enc, Ty.encs])
      | (refine Run.condM ?_; simp -implicitDefEqProofs only [hv, rs_r19_Add, Bool.not_eq_true', Bool.not_eq_false', go_sem, eq_self, Nat.reduceEqDiff, Nat.reduceBEq, Nat.reduceAdd, Nat.reduceLeDiff, reduceIte, reduceCtorEq, tysA, tyA, Ty.enc, Ty.encs])
      | (refine Run.retP g_r19_Add (Heap.le_refl _) ?_; simp -implicitDefEqProofs only [rs_r19_Add, hv, go_sem, eq_self, Nat.reduceEqDiff, Nat.reduceBEq, Nat.reduceAdd, Nat.reduceLeDiff, reduceIte, reduceCtorEq, tysA, tyA, Ty.enc, Ty.encs])
      | (refine XCall.det (r19_Valid_ok ⟨c, ts⟩ _) ?_; simp -implicitDefEqProofs only [hv, rs_r19_Add, Bool.not_eq_true', Bool.not_eq_false', go_sem, eq_self, Nat.reduceEqDiff, Nat.reduceBEq, Nat.reduceAdd, Nat.reduceLeDiff, reduceIte, reduceCtorEq, tysA, tyA, Ty.enc, Ty.encs])
      | (refine xo_gs rfl (fun h => ?_) (fun h => ?_) <;> first | (cases h; done) | simp -implicitDefEqProofs only [hv, rs_r19_Add, Bool.not_eq_true', Bool.not_eq_false', go_sem, eq_self, Nat.reduceEqDiff, Nat.reduceBEq, Nat.reduceAdd, Nat.reduceLeDiff, reduceIte, reduceCtorEq, tysA, tyA, Ty.enc, Ty.encs])
      | (refine ⟨fun h => ?_, fun h => ?_⟩ <;> first | (cases h; done) | (simp -implicitDefEqProofs only [h]; done) | (try simp -implicitDefEqProofs only [h]))
      | fail))
    simp [addP, hv, errR, resA, linA]
  | true =>
  cases hu : validP ⟨d, us⟩ with
  | false =>
    (repeat' (first
      | refine Run.seq ?_
      | refine Run.skip ?_
      | refine Run.block ?_
      | refine Run.blk ?_
      | refine Run.scope ?_
      | refine Run.scp ?_
      | (refine Run.exit rfl ?_)
      | (refine Run.reg mixed ?_; simp -implicitDefEqProofs only [hv, hu, rs_r19_Add, Bool.not_eq_true', Bool.not_eq_false', go_sem, eq_self, Nat.reduceEqDiff, Nat.reduceBEq, Nat.reduceAdd, Nat.reduceLeDiff, reduceIte, reduceCtorEq, tysA, tyA, Ty.enc, Ty.encs])
      | (refine Run.condM ?_; simp -implicitDefEqProofs only [hv, hu, rs_r19_Add, Bool.not_eq_true', Bool.not_eq_false', go_sem, eq_self, Nat.reduceEqDiff, Nat.reduceBEq, Nat.reduceAdd, Nat.reduceLeDiff, reduceIte, reduceCtorEq, tysA, tyA, Ty.enc, Ty.encs])
      | (refine Run.retP g_r19_Add (Heap.le_refl _) ?_; simp -implicitDefEqProofs only [rs_r19_Add, hv, hu, go_sem, eq_self, Nat.reduceEqDiff, Nat.reduceBEq, Nat.reduceAdd, Nat.reduceLeDiff, reduceIte, reduceCtorEq, tysA, tyA, Ty.enc, Ty.encs])
      | (refine XCall.det (r19_Valid_ok ⟨c, ts⟩ _) ?_; simp -implicitDefEqProofs only [hv, hu, rs_r19_Add, Bool.not_eq_true', Bool.not_eq_false', go_sem, eq_self, Nat.reduceEqDiff, Nat.reduceBEq, Nat.reduceAdd, Nat.reduceLeDiff, reduceIte, reduceCtorEq, tysA, tyA, Ty.enc, Ty.encs])
      | (refine XCall.det (r19_Valid_ok ⟨d, us⟩ _) ?_; simp -implicitDefEqProofs only [hv, hu, rs_r19_Add, Bool.not_eq_true', Bool.not_eq_false', go_sem, eq_self, Nat.reduceEqDiff, Nat.reduceBEq, Nat.reduceAdd, Nat.reduceLeDiff, reduceIte, reduceCtorEq, tysA, tyA, Ty.enc, Ty.encs])
      | (refine xo_gs rfl (fun h => ?_) (fun h => ?_) <;> first | (cases h; done) | simp -implicitDefEqProofs only [hv, hu, rs_r19_Add, Bool.not_eq_true', Bool.not_eq_false', go_sem, eq_self, Nat.reduceEqDiff, Nat.reduceBEq, Nat.reduceAdd, Nat.reduceLeDiff, reduceIte, reduceCtorEq, tysA, tyA, Ty.enc, Ty.encs])
      | (refine ⟨fun h => ?_, fun h => ?_⟩ <;> first | (cases h; done) | (simp -implicitDefEqProofs only [h]; done) | (try simp -implicitDefEqProofs only [h]))
      | fail))
    simp [addP, hu, errR, resA, linA]
  | true =>
  obtain ⟨h1, h2, h3, h4⟩ := valid_facts hv
  obtain ⟨k1, k2, k3, k4⟩ := valid_facts hu
  obtain ⟨a1, a2⟩ := valid_asc hv
  simp only at h1 h2 h3 h4 k1 k2 k3 k4
  have hp := r19_plus_ok ⟨c, ts⟩ ⟨d, us⟩ 1 1048576 σ (by omega) (by omega) h2 (by
    intro x hx
    obtain ⟨y, hy, rfl⟩ := List.mem_map.1 hx
    have := k2 y hy
    simp only [mulT]; omega) (by simp only; omega) (by simp only; omega) (wrap_id (by simp only; omega) (by simp only; omega)) (wrap_id (by simp only; omega) (by simp only; omega))
  (repeat' (first
      | refine Run.seq ?_
      | refine Run.skip ?_
      | refine Run.block ?_
      | refine Run.blk ?_
      | refine Run.scope ?_
      | refine Run.scp ?_
      | (refine Run.exit rfl ?_)
      | (refine Run.reg mixed ?_; simp -implicitDefEqProofs only [hv, hu, resA, linA, rs_r19_Add, Bool.not_eq_true', Bool.not_eq_false', go_sem, eq_self, Nat.reduceEqDiff, Nat.reduceBEq, Nat.reduceAdd, Nat.reduceLeDiff, reduceIte, reduceCtorEq, tysA, tyA, Ty.enc, Ty.encs])
      | (refine Run.condM ?_; simp -implicitDefEqProofs only [hv, hu, resA, linA, rs_r19_Add, Bool.not_eq_true', Bool.not_eq_false', go_sem, eq_self, Nat.reduceEqDiff, Nat.reduceBEq, Nat.reduceAdd, Nat.reduceLeDiff, reduceIte, reduceCtorEq, tysA, tyA, Ty.enc, Ty.encs])
      | (refine Run.retP g_r19_Add (Heap.le_refl _) ?_; simp -implicitDefEqProofs only [rs_r19_Add, hv, hu, resA, linA, go_sem, eq_self, Nat.reduceEqDiff, Nat.reduceBEq, Nat.reduceAdd, Nat.reduceLeDiff, reduceIte, reduceCtorEq, tysA, tyA, Ty.enc, Ty.encs])
      | (refine XCall.det (r19_Valid_ok ⟨c, ts⟩ _) ?_; simp -implicitDefEqProofs only [hv, hu, resA, linA, rs_r19_Add, Bool.not_eq_true', Bool.not_eq_false', go_sem, eq_self, Nat.reduceEqDiff, Nat.reduceBEq, Nat.reduceAdd, Nat.reduceLeDiff, reduceIte, reduceCtorEq, tysA, tyA, Ty.enc, Ty.encs])
      | (refine XCall.det (r19_Valid_ok ⟨d, us⟩ _) ?_; simp -implicitDefEqProofs only [hv, hu, resA, linA, rs_r19_Add, Bool.not_eq_true', Bool.not_eq_false', go_sem, eq_self, Nat.reduceEqDiff, Nat.reduceBEq, Nat.reduceAdd, Nat.reduceLeDiff, reduceIte, reduceCtorEq, tysA, tyA, Ty.enc, Ty.encs])
      | (refine XCall.det (hp) ?_; simp -implicitDefEqProofs only [hv, hu, resA, linA, rs_r19_Add, Bool.not_eq_true', Bool.not_eq_false', go_sem, eq_self, Nat.reduceEqDiff, Nat.reduceBEq, Nat.reduceAdd, Nat.reduceLeDiff, reduceIte, reduceCtorEq, tysA, tyA, Ty.enc, Ty.encs])
      | (refine XCall.det (r19_checked_ok ⟨c + 1 * d, addAll ts (us.map (mulT 1))⟩ _) ?_; simp -implicitDefEqProofs only [hv, hu, resA, linA, rs_r19_Add, Bool.not_eq_true', Bool.not_eq_false', go_sem, eq_self, Nat.reduceEqDiff, Nat.reduceBEq, Nat.reduceAdd, Nat.reduceLeDiff, reduceIte, reduceCtorEq, tysA, tyA, Ty.enc, Ty.encs])
      | (refine xo_gs rfl (fun h => ?_) (fun h => ?_) <;> first | (cases h; done) | simp -implicitDefEqProofs only [hv, hu, resA, linA, rs_r19_Add, Bool.not_eq_true', Bool.not_eq_false', go_sem, eq_self, Nat.reduceEqDiff, Nat.reduceBEq, Nat.reduceAdd, Nat.reduceLeDiff, reduceIte, reduceCtorEq, tysA, tyA, Ty.enc, Ty.encs])
      | (refine ⟨fun h => ?_, fun h => ?_⟩ <;> first | (cases h; done) | (simp -implicitDefEqProofs only [h]; done) | (try simp -implicitDefEqProofs only [h]))
      | fail))
  have he := addAll_eq (us.map (mulT 1)) a1 a2
  rw [he, mulT_one, Int.one_mul]
  simp [addP, hv, hu, resA, linA]
theorem r19_Sub_ok (l m : Ln) (σ : Heap) : ACalls Tryd.prog 30 [linA l, linA m] σ (fun v σ' => v = resA (subP l m) ∧ σ' = σ) := by
  obtain ⟨c, ts⟩ := l
  obtain ⟨d, us⟩ := m
  refine i_r19_Sub (by simp) ?_
  rw [argF_2, linA, linA]
  cases hv : validP ⟨c, ts⟩ with
  | false =>
    (repeat' (first
      | refine Run.seq ?_
      | refine Run.skip ?_
      | refine Run.block ?_
      | refine Run.blk ?_
      | refine Run.scope ?_
      | refine Run.scp ?_
      | (refine Run.exit rfl ?_)
      | (refine Run.reg mixed ?_; simp -implicitDefEqProofs only [hv, rs_r19_Sub, Bool.not_eq_true', Bool.not_eq_false', go_sem, eq_self, Nat.reduceEqDiff, Nat.reduceBEq, Nat.reduceAdd, Nat.reduceLeDiff, reduceIte, reduceCtorEq, tysA, tyA, Ty.enc, Ty.encs])
      | (refine Run.condM ?_; simp -implicitDefEqProofs only [hv, rs_r19_Sub, Bool.not_eq_true', Bool.not_eq_false', go_sem, eq_self, Nat.reduceEqDiff, Nat.reduceBEq, Nat.reduceAdd, Nat.reduceLeDiff, reduceIte, reduceCtorEq, tysA, tyA, Ty.enc, Ty.encs])
      | (refine Run.retP g_r19_Sub (Heap.le_refl _) ?_; simp -implicitDefEqProofs only [rs_r19_Sub, hv, go_sem, eq_self, Nat.reduceEqDiff, Nat.reduceBEq, Nat.reduceAdd, Nat.reduceLeDiff, reduceIte, reduceCtorEq, tysA, tyA, Ty.enc, Ty.encs])
      | (refine XCall.det (r19_Valid_ok ⟨c, ts⟩ _) ?_; simp -implicitDefEqProofs only [hv, rs_r19_Sub, Bool.not_eq_true', Bool.not_eq_false', go_sem, eq_self, Nat.reduceEqDiff, Nat.reduceBEq, Nat.reduceAdd, Nat.reduceLeDiff, reduceIte, reduceCtorEq, tysA, tyA, Ty.enc, Ty.encs])
      | (refine xo_gs rfl (fun h => ?_) (fun h => ?_) <;> first | (cases h; done) | simp -implicitDefEqProofs only [hv, rs_r19_Sub, Bool.not_eq_true', Bool.not_eq_false', go_sem, eq_self, Nat.reduceEqDiff, Nat.reduceBEq, Nat.reduceAdd, Nat.reduceLeDiff, reduceIte, reduceCtorEq, tysA, tyA, Ty.enc, Ty.encs])
      | (refine ⟨fun h => ?_, fun h => ?_⟩ <;> first | (cases h; done) | (simp -implicitDefEqProofs only [h]; done) | (try simp -implicitDefEqProofs only [h]))
      | fail))
    simp [subP, hv, errR, resA, linA]
  | true =>
  cases hu : validP ⟨d, us⟩ with
  | false =>
    (repeat' (first
      | refine Run.seq ?_
      | refine Run.skip ?_
      | refine Run.block ?_
      | refine Run.blk ?_
      | refine Run.scope ?_
      | refine Run.scp ?_
      | (refine Run.exit rfl ?_)
      | (refine Run.reg mixed ?_; simp -implicitDefEqProofs only [hv, hu, rs_r19_Sub, Bool.not_eq_true', Bool.not_eq_false', go_sem, eq_self, Nat.reduceEqDiff, Nat.reduceBEq, Nat.reduceAdd, Nat.reduceLeDiff, reduceIte, reduceCtorEq, tysA, tyA, Ty.enc, Ty.encs])
      | (refine Run.condM ?_; simp -implicitDefEqProofs only [hv, hu, rs_r19_Sub, Bool.not_eq_true', Bool.not_eq_false', go_sem, eq_self, Nat.reduceEqDiff, Nat.reduceBEq, Nat.reduceAdd, Nat.reduceLeDiff, reduceIte, reduceCtorEq, tysA, tyA, Ty.enc, Ty.encs])
      | (refine Run.retP g_r19_Sub (Heap.le_refl _) ?_; simp -implicitDefEqProofs only [rs_r19_Sub, hv, hu, go_sem, eq_self, Nat.reduceEqDiff, Nat.reduceBEq, Nat.reduceAdd, Nat.reduceLeDiff, reduceIte, reduceCtorEq, tysA, tyA, Ty.enc, Ty.encs])
      | (refine XCall.det (r19_Valid_ok ⟨c, ts⟩ _) ?_; simp -implicitDefEqProofs only [hv, hu, rs_r19_Sub, Bool.not_eq_true', Bool.not_eq_false', go_sem, eq_self, Nat.reduceEqDiff, Nat.reduceBEq, Nat.reduceAdd, Nat.reduceLeDiff, reduceIte, reduceCtorEq, tysA, tyA, Ty.enc, Ty.encs])
      | (refine XCall.det (r19_Valid_ok ⟨d, us⟩ _) ?_; simp -implicitDefEqProofs only [hv, hu, rs_r19_Sub, Bool.not_eq_true', Bool.not_eq_false', go_sem, eq_self, Nat.reduceEqDiff, Nat.reduceBEq, Nat.reduceAdd, Nat.reduceLeDiff, reduceIte, reduceCtorEq, tysA, tyA, Ty.enc, Ty.encs])
      | (refine xo_gs rfl (fun h => ?_) (fun h => ?_) <;> first | (cases h; done) | simp -implicitDefEqProofs only [hv, hu, rs_r19_Sub, Bool.not_eq_true', Bool.not_eq_false', go_sem, eq_self, Nat.reduceEqDiff, Nat.reduceBEq, Nat.reduceAdd, Nat.reduceLeDiff, reduceIte, reduceCtorEq, tysA, tyA, Ty.enc, Ty.encs])
      | (refine ⟨fun h => ?_, fun h => ?_⟩ <;> first | (cases h; done) | (simp -implicitDefEqProofs only [h]; done) | (try simp -implicitDefEqProofs only [h]))
      | fail))
    simp [subP, hu, errR, resA, linA]
  | true =>
  obtain ⟨h1, h2, h3, h4⟩ := valid_facts hv
  obtain ⟨k1, k2, k3, k4⟩ := valid_facts hu
  obtain ⟨a1, a2⟩ := valid_asc hv
  simp only at h1 h2 h3 h4 k1 k2 k3 k4
  have hp := r19_plus_ok ⟨c, ts⟩ ⟨d, us⟩ (-1) 1048576 σ (by omega) (by omega) h2 (by
    intro x hx
    obtain ⟨y, hy, rfl⟩ := List.mem_map.1 hx
    have := k2 y hy
    simp only [mulT]; omega) (by simp only; omega) (by simp only; omega) (wrap_id (by simp only; omega) (by simp only; omega)) (wrap_id (by simp only; omega) (by simp only; omega))
  (repeat' (first
      | refine Run.seq ?_
      | refine Run.skip ?_
      | refine Run.block ?_
      | refine Run.blk ?_
      | refine Run.scope ?_
      | refine Run.scp ?_
      | (refine Run.exit rfl ?_)
      | (refine Run.reg mixed ?_; simp -implicitDefEqProofs only [hv, hu, resA, linA, rs_r19_Sub, Bool.not_eq_true', Bool.not_eq_false', go_sem, eq_self, Nat.reduceEqDiff, Nat.reduceBEq, Nat.reduceAdd, Nat.reduceLeDiff, reduceIte, reduceCtorEq, tysA, tyA, Ty.enc, Ty.encs])
      | (refine Run.condM ?_; simp -implicitDefEqProofs only [hv, hu, resA, linA, rs_r19_Sub, Bool.not_eq_true', Bool.not_eq_false', go_sem, eq_self, Nat.reduceEqDiff, Nat.reduceBEq, Nat.reduceAdd, Nat.reduceLeDiff, reduceIte, reduceCtorEq, tysA, tyA, Ty.enc, Ty.encs])
      | (refine Run.retP g_r19_Sub (Heap.le_refl _) ?_; simp -implicitDefEqProofs only [rs_r19_Sub, hv, hu, resA, linA, go_sem, eq_self, Nat.reduceEqDiff, Nat.reduceBEq, Nat.reduceAdd, Nat.reduceLeDiff, reduceIte, reduceCtorEq, tysA, tyA, Ty.enc, Ty.encs])
      | (refine XCall.det (r19_Valid_ok ⟨c, ts⟩ _) ?_; simp -implicitDefEqProofs only [hv, hu, resA, linA, rs_r19_Sub, Bool.not_eq_true', Bool.not_eq_false', go_sem, eq_self, Nat.reduceEqDiff, Nat.reduceBEq, Nat.reduceAdd, Nat.reduceLeDiff, reduceIte, reduceCtorEq, tysA, tyA, Ty.enc, Ty.encs])
      | (refine XCall.det (r19_Valid_ok ⟨d, us⟩ _) ?_; simp -implicitDefEqProofs only [hv, hu, resA, linA, rs_r19_Sub, Bool.not_eq_true', Bool.not_eq_false', go_sem, eq_self, Nat.reduceEqDiff, Nat.reduceBEq, Nat.reduceAdd, Nat.reduceLeDiff, reduceIte, reduceCtorEq, tysA, tyA, Ty.enc, Ty.encs])
      | (refine XCall.det (hp) ?_; simp -implicitDefEqProofs only [hv, hu, resA, linA, rs_r19_Sub, Bool.not_eq_true', Bool.not_eq_false', go_sem, eq_self, Nat.reduceEqDiff, Nat.reduceBEq, Nat.reduceAdd, Nat.reduceLeDiff, reduceIte, reduceCtorEq, tysA, tyA, Ty.enc, Ty.encs])
      | (refine XCall.det (r19_checked_ok ⟨c + -1 * d, addAll ts (us.map (mulT (-1)))⟩ _) ?_; simp -implicitDefEqProofs only [hv, hu, resA, linA, rs_r19_Sub, Bool.not_eq_true', Bool.not_eq_false', go_sem, eq_self, Nat.reduceEqDiff, Nat.reduceBEq, Nat.reduceAdd, Nat.reduceLeDiff, reduceIte, reduceCtorEq, tysA, tyA, Ty.enc, Ty.encs])
      | (refine xo_gs rfl (fun h => ?_) (fun h => ?_) <;> first | (cases h; done) | simp -implicitDefEqProofs only [hv, hu, resA, linA, rs_r19_Sub, Bool.not_eq_true', Bool.not_eq_false', go_sem, eq_self, Nat.reduceEqDiff, Nat.reduceBEq, Nat.reduceAdd, Nat.reduceLeDiff, reduceIte, reduceCtorEq, tysA, tyA, Ty.enc, Ty.encs])
      | (refine ⟨fun h => ?_, fun h => ?_⟩ <;> first | (cases h; done) | (simp -implicitDefEqProofs only [h]; done) | (try simp -implicitDefEqProofs only [h]))
      | fail))
  have he := addAll_eq (us.map (mulT (-1))) a1 a2
  rw [he, show c + -1 * d = c - d by omega]
  simp [subP, hv, hu, resA, linA]
theorem r19_Scale_ok (l : Ln) (n : Int) (σ : Heap) : ACalls Tryd.prog 32 [linA l, .d (.int .i64 n)] σ (fun v σ' => v = resA (scaleP l n) ∧ σ' = σ) := by
  obtain ⟨c, ts⟩ := l
  refine i_r19_Scale (by simp) ?_
  rw [argF_2, linA]
  cases hv : validP ⟨c, ts⟩ with
  | false =>
    (repeat' (first
      | refine Run.seq ?_
      | refine Run.skip ?_
      | refine Run.block ?_
      | refine Run.blk ?_
      | refine Run.scope ?_
      | refine Run.scp ?_
      | (refine Run.exit rfl ?_)
      | (refine Run.reg mixed ?_; simp -implicitDefEqProofs only [hv, rs_r19_Scale, Bool.not_eq_true', Bool.not_eq_false', go_sem, eq_self, Nat.reduceEqDiff, Nat.reduceBEq, Nat.reduceAdd, Nat.reduceLeDiff, reduceIte, reduceCtorEq, tysA, tyA, Ty.enc, Ty.encs])
      | (refine Run.condM ?_; simp -implicitDefEqProofs only [hv, rs_r19_Scale, Bool.not_eq_true', Bool.not_eq_false', go_sem, eq_self, Nat.reduceEqDiff, Nat.reduceBEq, Nat.reduceAdd, Nat.reduceLeDiff, reduceIte, reduceCtorEq, tysA, tyA, Ty.enc, Ty.encs])
      | (refine Run.retP g_r19_Scale (Heap.le_refl _) ?_; simp -implicitDefEqProofs only [rs_r19_Scale, hv, go_sem, eq_self, Nat.reduceEqDiff, Nat.reduceBEq, Nat.reduceAdd, Nat.reduceLeDiff, reduceIte, reduceCtorEq, tysA, tyA, Ty.enc, Ty.encs])
      | (refine XCall.det (r19_Valid_ok ⟨c, ts⟩ _) ?_; simp -implicitDefEqProofs only [hv, rs_r19_Scale, Bool.not_eq_true', Bool.not_eq_false', go_sem, eq_self, Nat.reduceEqDiff, Nat.reduceBEq, Nat.reduceAdd, Nat.reduceLeDiff, reduceIte, reduceCtorEq, tysA, tyA, Ty.enc, Ty.encs])
      | (refine xo_gs rfl (fun h => ?_) (fun h => ?_) <;> first | (cases h; done) | simp -implicitDefEqProofs only [hv, rs_r19_Scale, Bool.not_eq_true', Bool.not_eq_false', go_sem, eq_self, Nat.reduceEqDiff, Nat.reduceBEq, Nat.reduceAdd, Nat.reduceLeDiff, reduceIte, reduceCtorEq, tysA, tyA, Ty.enc, Ty.encs])
      | (refine ⟨fun h => ?_, fun h => ?_⟩ <;> first | (cases h; done) | (simp -implicitDefEqProofs only [h]; done) | (try simp -implicitDefEqProofs only [h]))
      | fail))
    simp [scaleP, hv, errR, resA, linA]
  | true =>
  by_cases hc1 : n < -1048576
  · (repeat' (first
      | refine Run.seq ?_
      | refine Run.skip ?_
      | refine Run.block ?_
      | refine Run.blk ?_
      | refine Run.scope ?_
      | refine Run.scp ?_
      | (refine Run.exit rfl ?_)
      | (refine Run.reg mixed ?_; simp -implicitDefEqProofs only [hv, decide_eq_true hc1, rs_r19_Scale, Bool.not_eq_true', Bool.not_eq_false', go_sem, eq_self, Nat.reduceEqDiff, Nat.reduceBEq, Nat.reduceAdd, Nat.reduceLeDiff, reduceIte, reduceCtorEq, tysA, tyA, Ty.enc, Ty.encs])
      | (refine Run.condM ?_; simp -implicitDefEqProofs only [hv, decide_eq_true hc1, rs_r19_Scale, Bool.not_eq_true', Bool.not_eq_false', go_sem, eq_self, Nat.reduceEqDiff, Nat.reduceBEq, Nat.reduceAdd, Nat.reduceLeDiff, reduceIte, reduceCtorEq, tysA, tyA, Ty.enc, Ty.encs])
      | (refine Run.retP g_r19_Scale (Heap.le_refl _) ?_; simp -implicitDefEqProofs only [rs_r19_Scale, hv, decide_eq_true hc1, go_sem, eq_self, Nat.reduceEqDiff, Nat.reduceBEq, Nat.reduceAdd, Nat.reduceLeDiff, reduceIte, reduceCtorEq, tysA, tyA, Ty.enc, Ty.encs])
      | (refine XCall.det (r19_Valid_ok ⟨c, ts⟩ _) ?_; simp -implicitDefEqProofs only [hv, decide_eq_true hc1, rs_r19_Scale, Bool.not_eq_true', Bool.not_eq_false', go_sem, eq_self, Nat.reduceEqDiff, Nat.reduceBEq, Nat.reduceAdd, Nat.reduceLeDiff, reduceIte, reduceCtorEq, tysA, tyA, Ty.enc, Ty.encs])
      | (refine xo_gs rfl (fun h => ?_) (fun h => ?_) <;> first | (cases h; done) | simp -implicitDefEqProofs only [hv, decide_eq_true hc1, rs_r19_Scale, Bool.not_eq_true', Bool.not_eq_false', go_sem, eq_self, Nat.reduceEqDiff, Nat.reduceBEq, Nat.reduceAdd, Nat.reduceLeDiff, reduceIte, reduceCtorEq, tysA, tyA, Ty.enc, Ty.encs])
      | (refine ⟨fun h => ?_, fun h => ?_⟩ <;> first | (cases h; done) | (simp -implicitDefEqProofs only [h]; done) | (try simp -implicitDefEqProofs only [h]))
      | fail))
    have : smB n = false := by simp [smB]; omega
    simp [scaleP, hv, this, errR, resA, linA]
  by_cases hc2 : 1048576 < n
  · (repeat' (first
      | refine Run.seq ?_
      | refine Run.skip ?_
      | refine Run.block ?_
      | refine Run.blk ?_
      | refine Run.scope ?_
      | refine Run.scp ?_
      | (refine Run.exit rfl ?_)
      | (refine Run.reg mixed ?_; simp -implicitDefEqProofs only [hv, decide_eq_false hc1, decide_eq_true hc2, rs_r19_Scale, Bool.not_eq_true', Bool.not_eq_false', go_sem, eq_self, Nat.reduceEqDiff, Nat.reduceBEq, Nat.reduceAdd, Nat.reduceLeDiff, reduceIte, reduceCtorEq, tysA, tyA, Ty.enc, Ty.encs])
      | (refine Run.condM ?_; simp -implicitDefEqProofs only [hv, decide_eq_false hc1, decide_eq_true hc2, rs_r19_Scale, Bool.not_eq_true', Bool.not_eq_false', go_sem, eq_self, Nat.reduceEqDiff, Nat.reduceBEq, Nat.reduceAdd, Nat.reduceLeDiff, reduceIte, reduceCtorEq, tysA, tyA, Ty.enc, Ty.encs])
      | (refine Run.retP g_r19_Scale (Heap.le_refl _) ?_; simp -implicitDefEqProofs only [rs_r19_Scale, hv, decide_eq_false hc1, decide_eq_true hc2, go_sem, eq_self, Nat.reduceEqDiff, Nat.reduceBEq, Nat.reduceAdd, Nat.reduceLeDiff, reduceIte, reduceCtorEq, tysA, tyA, Ty.enc, Ty.encs])
      | (refine XCall.det (r19_Valid_ok ⟨c, ts⟩ _) ?_; simp -implicitDefEqProofs only [hv, decide_eq_false hc1, decide_eq_true hc2, rs_r19_Scale, Bool.not_eq_true', Bool.not_eq_false', go_sem, eq_self, Nat.reduceEqDiff, Nat.reduceBEq, Nat.reduceAdd, Nat.reduceLeDiff, reduceIte, reduceCtorEq, tysA, tyA, Ty.enc, Ty.encs])
      | (refine xo_gs rfl (fun h => ?_) (fun h => ?_) <;> first | (cases h; done) | simp -implicitDefEqProofs only [hv, decide_eq_false hc1, decide_eq_true hc2, rs_r19_Scale, Bool.not_eq_true', Bool.not_eq_false', go_sem, eq_self, Nat.reduceEqDiff, Nat.reduceBEq, Nat.reduceAdd, Nat.reduceLeDiff, reduceIte, reduceCtorEq, tysA, tyA, Ty.enc, Ty.encs])
      | (refine ⟨fun h => ?_, fun h => ?_⟩ <;> first | (cases h; done) | (simp -implicitDefEqProofs only [h]; done) | (try simp -implicitDefEqProofs only [h]))
      | fail))
    have : smB n = false := by simp [smB]; omega
    simp [scaleP, hv, this, errR, resA, linA]
  have hn : smB n = true := by simp [smB]; omega
  obtain ⟨h1, h2, h3, h4⟩ := valid_facts hv
  simp only at h1 h2 h3 h4
  have hn' := (smB_iff n).1 hn
  have hcn := mul_bd hn' ⟨h3, h4⟩
  have hp := r19_plus_ok ⟨0, []⟩ ⟨c, ts⟩ n 0 σ (by omega) (by omega) (by intro x hx; cases hx) (by
    intro x hx
    obtain ⟨y, hy, rfl⟩ := List.mem_map.1 hx
    exact mul_bd (h2 y hy) hn') (by simp) (by simp only; omega) (wrap_id (by simp only; omega) (by simp only; omega)) (wrap_id (by simp only; omega) (by simp only; omega))
  simp only [linA, List.map_nil] at hp
  (repeat' (first
      | refine Run.seq ?_
      | refine Run.skip ?_
      | refine Run.block ?_
      | refine Run.blk ?_
      | refine Run.scope ?_
      | refine Run.scp ?_
      | (refine Run.exit rfl ?_)
      | (refine Run.reg mixed ?_; simp -implicitDefEqProofs only [hv, decide_eq_false hc1, decide_eq_false hc2, resA, linA, rs_r19_Scale, Bool.not_eq_true', Bool.not_eq_false', go_sem, eq_self, Nat.reduceEqDiff, Nat.reduceBEq, Nat.reduceAdd, Nat.reduceLeDiff, reduceIte, reduceCtorEq, tysA, tyA, Ty.enc, Ty.encs])
      | (refine Run.condM ?_; simp -implicitDefEqProofs only [hv, decide_eq_false hc1, decide_eq_false hc2, resA, linA, rs_r19_Scale, Bool.not_eq_true', Bool.not_eq_false', go_sem, eq_self, Nat.reduceEqDiff, Nat.reduceBEq, Nat.reduceAdd, Nat.reduceLeDiff, reduceIte, reduceCtorEq, tysA, tyA, Ty.enc, Ty.encs])
      | (refine Run.retP g_r19_Scale (Heap.le_refl _) ?_; simp -implicitDefEqProofs only [rs_r19_Scale, hv, decide_eq_false hc1, decide_eq_false hc2, resA, linA, go_sem, eq_self, Nat.reduceEqDiff, Nat.reduceBEq, Nat.reduceAdd, Nat.reduceLeDiff, reduceIte, reduceCtorEq, tysA, tyA, Ty.enc, Ty.encs])
      | (refine XCall.det (r19_Valid_ok ⟨c, ts⟩ _) ?_; simp -implicitDefEqProofs only [hv, decide_eq_false hc1, decide_eq_false hc2, resA, linA, rs_r19_Scale, Bool.not_eq_true', Bool.not_eq_false', go_sem, eq_self, Nat.reduceEqDiff, Nat.reduceBEq, Nat.reduceAdd, Nat.reduceLeDiff, reduceIte, reduceCtorEq, tysA, tyA, Ty.enc, Ty.encs])
      | (refine XCall.det (ACalls.plain hp) ?_; simp -implicitDefEqProofs only [hv, decide_eq_false hc1, decide_eq_false hc2, resA, linA, rs_r19_Scale, Bool.not_eq_true', Bool.not_eq_false', go_sem, eq_self, Nat.reduceEqDiff, Nat.reduceBEq, Nat.reduceAdd, Nat.reduceLeDiff, reduceIte, reduceCtorEq, tysA, tyA, Ty.enc, Ty.encs])
      | (refine XCall.det (r19_checked_ok ⟨0 + n * c, addAll [] (ts.map (mulT n))⟩ _) ?_; simp -implicitDefEqProofs only [hv, decide_eq_false hc1, decide_eq_false hc2, resA, linA, rs_r19_Scale, Bool.not_eq_true', Bool.not_eq_false', go_sem, eq_self, Nat.reduceEqDiff, Nat.reduceBEq, Nat.reduceAdd, Nat.reduceLeDiff, reduceIte, reduceCtorEq, tysA, tyA, Ty.enc, Ty.encs])
      | (refine xo_gs rfl (fun h => ?_) (fun h => ?_) <;> first | (cases h; done) | simp -implicitDefEqProofs only [hv, decide_eq_false hc1, decide_eq_false hc2, resA, linA, rs_r19_Scale, Bool.not_eq_true', Bool.not_eq_false', go_sem, eq_self, Nat.reduceEqDiff, Nat.reduceBEq, Nat.reduceAdd, Nat.reduceLeDiff, reduceIte, reduceCtorEq, tysA, tyA, Ty.enc, Ty.encs])
      | (refine ⟨fun h => ?_, fun h => ?_⟩ <;> first | (cases h; done) | (simp -implicitDefEqProofs only [h]; done) | (try simp -implicitDefEqProofs only [h]))
      | fail))
  rw [show 0 + n * c = c * n by rw [Int.zero_add, Int.mul_comm]]
  simp [scaleP, hv, hn, resA, linA, canTs]

theorem r19_Canonical_ok (l : Ln) (σ : Heap) : ACalls Tryd.prog 34 [linA l] σ (fun v σ' => v = resA (canP l) ∧ σ' = σ) := by
  obtain ⟨c, ts⟩ := l
  refine i_r19_Canonical (by simp) ?_
  rw [argF_1, linA]
  (repeat' (first
      | refine Run.seq ?_
      | refine Run.skip ?_
      | refine Run.block ?_
      | refine Run.blk ?_
      | refine Run.scope ?_
      | refine Run.scp ?_
      | (refine Run.exit rfl ?_)
      | (refine Run.reg mixed ?_; simp -implicitDefEqProofs only [List.length_map, rs_r19_Canonical, Bool.not_eq_true', Bool.not_eq_false', go_sem, eq_self, Nat.reduceEqDiff, Nat.reduceBEq, Nat.reduceAdd, Nat.reduceLeDiff, reduceIte, reduceCtorEq, tysA, tyA, Ty.enc, Ty.encs])
      | (refine Run.condM ?_; simp -implicitDefEqProofs only [List.length_map, rs_r19_Canonical, Bool.not_eq_true', Bool.not_eq_false', go_sem, eq_self, Nat.reduceEqDiff, Nat.reduceBEq, Nat.reduceAdd, Nat.reduceLeDiff, reduceIte, reduceCtorEq, tysA, tyA, Ty.enc, Ty.encs])
      | (refine Run.retP g_r19_Canonical (Heap.le_refl _) ?_; simp -implicitDefEqProofs only [rs_r19_Canonical, List.length_map, go_sem, eq_self, Nat.reduceEqDiff, Nat.reduceBEq, Nat.reduceAdd, Nat.reduceLeDiff, reduceIte, reduceCtorEq, tysA, tyA, Ty.enc, Ty.encs])
      | (refine xo_gs rfl (fun h => ?_) (fun h => ?_) <;> first | (cases h; done) | simp -implicitDefEqProofs only [List.length_map, rs_r19_Canonical, Bool.not_eq_true', Bool.not_eq_false', go_sem, eq_self, Nat.reduceEqDiff, Nat.reduceBEq, Nat.reduceAdd, Nat.reduceLeDiff, reduceIte, reduceCtorEq, tysA, tyA, Ty.enc, Ty.encs])
      | (refine ⟨fun h => ?_, fun h => ?_⟩ <;> first | (cases h; done) | (simp -implicitDefEqProofs only [h]; done) | (try simp -implicitDefEqProofs only [h]))
      | fail))
  refine Run.loopA ?_
  refine Run.loopI ((fun (a1 : AV) (a2 : AV) (a10 : AV) (a11 : AV) => fun (i : Nat) => put 1 a1 (put 2 a2 (put 10 a10 (put 11 a11 (put 12 (.d (.int .i64 i)) U))))) _ _ _ _) (fun _ => putL 1 [.d (.int .i64 c), .d (.sl (ts.map tmR))] (putL 2 [.d (.int .i64 0), .nils] E)) (fun _ => σ) (fun i => i ≤ ts.length ∧ (ts.take i).all (fun x => vaB x.1) = true) (fun i => ts.length - i) ?_ 0 ⟨by simp, by simp⟩
  rintro i ⟨hi, hok⟩ ih
  refine Run.cell 1 1 rfl rfl (fun hb => ?_)
  simp only [AV.lenOk, List.length_map] at hb
  by_cases hlt : i < ts.length
  · obtain ⟨x, hx⟩ := ex_at hlt
    have hw1 : IntKind.i64.wrap ((i : Int) + 1) = ((i + 1 : Nat) : Int) := by rw [wrap_pos (by omega) (by omega)]; omega
    have hx' := tm_at hx
    by_cases a1 : x.1 < -1
    · (repeat' (first
      | refine Run.seq ?_
      | refine Run.skip ?_
      | refine Run.block ?_
      | refine Run.blk ?_
      | refine Run.scope ?_
      | refine Run.scp ?_
      | (refine Run.exit rfl ?_)
      | (refine Run.reg mixed ?_; simp -implicitDefEqProofs only [lt_t hlt, hx', decide_eq_true a1, rs_r19_Canonical, Bool.not_eq_true', Bool.not_eq_false', go_sem, eq_self, Nat.reduceEqDiff, Nat.reduceBEq, Nat.reduceAdd, Nat.reduceLeDiff, reduceIte, reduceCtorEq, tysA, tyA, Ty.enc, Ty.encs])
      | (refine Run.condM ?_; simp -implicitDefEqProofs only [lt_t hlt, hx', decide_eq_true a1, rs_r19_Canonical, Bool.not_eq_true', Bool.not_eq_false', go_sem, eq_self, Nat.reduceEqDiff, Nat.reduceBEq, Nat.reduceAdd, Nat.reduceLeDiff, reduceIte, reduceCtorEq, tysA, tyA, Ty.enc, Ty.encs])
      | (refine Run.retP g_r19_Canonical (Heap.le_refl _) ?_; simp -implicitDefEqProofs only [rs_r19_Canonical, lt_t hlt, hx', decide_eq_true a1, go_sem, eq_self, Nat.reduceEqDiff, Nat.reduceBEq, Nat.reduceAdd, Nat.reduceLeDiff, reduceIte, reduceCtorEq, tysA, tyA, Ty.enc, Ty.encs])
      | (refine xo_gs rfl (fun h => ?_) (fun h => ?_) <;> first | (cases h; done) | simp -implicitDefEqProofs only [lt_t hlt, hx', decide_eq_true a1, rs_r19_Canonical, Bool.not_eq_true', Bool.not_eq_false', go_sem, eq_self, Nat.reduceEqDiff, Nat.reduceBEq, Nat.reduceAdd, Nat.reduceLeDiff, reduceIte, reduceCtorEq, tysA, tyA, Ty.enc, Ty.encs])
      | (refine ⟨fun h => ?_, fun h => ?_⟩ <;> first | (cases h; done) | (simp -implicitDefEqProofs only [h]; done) | (try simp -implicitDefEqProofs only [h]))
      | fail))
      have := not_all (p := fun x => vaB x.1) hx (show vaB x.1 = false by simp [vaB]; omega)
      simp [canP, this, errR, resA, linA]
    by_cases a2 : 3000 ≤ x.1
    · (repeat' (first
      | refine Run.seq ?_
      | refine Run.skip ?_
      | refine Run.block ?_
      | refine Run.blk ?_
      | refine Run.scope ?_
      | refine Run.scp ?_
      | (refine Run.exit rfl ?_)
      | (refine Run.reg mixed ?_; simp -implicitDefEqProofs only [lt_t hlt, hx', decide_eq_false a1, decide_eq_true a2, rs_r19_Canonical, Bool.not_eq_true', Bool.not_eq_false', go_sem, eq_self, Nat.reduceEqDiff, Nat.reduceBEq, Nat.reduceAdd, Nat.reduceLeDiff, reduceIte, reduceCtorEq, tysA, tyA, Ty.enc, Ty.encs])
      | (refine Run.condM ?_; simp -implicitDefEqProofs only [lt_t hlt, hx', decide_eq_false a1, decide_eq_true a2, rs_r19_Canonical, Bool.not_eq_true', Bool.not_eq_false', go_sem, eq_self, Nat.reduceEqDiff, Nat.reduceBEq, Nat.reduceAdd, Nat.reduceLeDiff, reduceIte, reduceCtorEq, tysA, tyA, Ty.enc, Ty.encs])
      | (refine Run.retP g_r19_Canonical (Heap.le_refl _) ?_; simp -implicitDefEqProofs only [rs_r19_Canonical, lt_t hlt, hx', decide_eq_false a1, decide_eq_true a2, go_sem, eq_self, Nat.reduceEqDiff, Nat.reduceBEq, Nat.reduceAdd, Nat.reduceLeDiff, reduceIte, reduceCtorEq, tysA, tyA, Ty.enc, Ty.encs])
      | (refine xo_gs rfl (fun h => ?_) (fun h => ?_) <;> first | (cases h; done) | simp -implicitDefEqProofs only [lt_t hlt, hx', decide_eq_false a1, decide_eq_true a2, rs_r19_Canonical, Bool.not_eq_true', Bool.not_eq_false', go_sem, eq_self, Nat.reduceEqDiff, Nat.reduceBEq, Nat.reduceAdd, Nat.reduceLeDiff, reduceIte, reduceCtorEq, tysA, tyA, Ty.enc, Ty.encs])
      | (refine ⟨fun h => ?_, fun h => ?_⟩ <;> first | (cases h; done) | (simp -implicitDefEqProofs only [h]; done) | (try simp -implicitDefEqProofs only [h]))
      | fail))
      have := not_all (p := fun x => vaB x.1) hx (show vaB x.1 = false by simp [vaB]; omega)
      simp [canP, this, errR, resA, linA]
    (repeat' (first
      | refine Run.seq ?_
      | refine Run.skip ?_
      | refine Run.block ?_
      | refine Run.blk ?_
      | refine Run.scope ?_
      | refine Run.scp ?_
      | (refine Run.exit rfl ?_)
      | (refine Run.reg mixed ?_; simp -implicitDefEqProofs only [lt_t hlt, hx', decide_eq_false a1, decide_eq_false a2, hw1, rs_r19_Canonical, Bool.not_eq_true', Bool.not_eq_false', go_sem, eq_self, Nat.reduceEqDiff, Nat.reduceBEq, Nat.reduceAdd, Nat.reduceLeDiff, reduceIte, reduceCtorEq, tysA, tyA, Ty.enc, Ty.encs])
      | (refine Run.condM ?_; simp -implicitDefEqProofs only [lt_t hlt, hx', decide_eq_false a1, decide_eq_false a2, hw1, rs_r19_Canonical, Bool.not_eq_true', Bool.not_eq_false', go_sem, eq_self, Nat.reduceEqDiff, Nat.reduceBEq, Nat.reduceAdd, Nat.reduceLeDiff, reduceIte, reduceCtorEq, tysA, tyA, Ty.enc, Ty.encs])
      | (refine Run.retP g_r19_Canonical (Heap.le_refl _) ?_; simp -implicitDefEqProofs only [rs_r19_Canonical, lt_t hlt, hx', decide_eq_false a1, decide_eq_false a2, hw1, go_sem, eq_self, Nat.reduceEqDiff, Nat.reduceBEq, Nat.reduceAdd, Nat.reduceLeDiff, reduceIte, reduceCtorEq, tysA, tyA, Ty.enc, Ty.encs])
      | (refine xo_gs rfl (fun h => ?_) (fun h => ?_) <;> first | (cases h; done) | simp -implicitDefEqProofs only [lt_t hlt, hx', decide_eq_false a1, decide_eq_false a2, hw1, rs_r19_Canonical, Bool.not_eq_true', Bool.not_eq_false', go_sem, eq_self, Nat.reduceEqDiff, Nat.reduceBEq, Nat.reduceAdd, Nat.reduceLeDiff, reduceIte, reduceCtorEq, tysA, tyA, Ty.enc, Ty.encs])
      | (refine ⟨fun h => ?_, fun h => ?_⟩ <;> first | (cases h; done) | (simp -implicitDefEqProofs only [h]; done) | (try simp -implicitDefEqProofs only [h]))
      | fail))
    exact ih (i + 1) ⟨by omega, all_take hok hx (show vaB x.1 = true by simp [vaB]; omega)⟩ (by omega)
  · rw [List.take_of_length_le (by omega)] at hok
    by_cases h64 : ts.length ≤ 64
    case neg =>
      (repeat' (first
      | refine Run.seq ?_
      | refine Run.skip ?_
      | refine Run.block ?_
      | refine Run.blk ?_
      | refine Run.scope ?_
      | refine Run.scp ?_
      | (refine Run.exit rfl ?_)
      | (refine Run.reg mixed ?_; simp -implicitDefEqProofs only [lt_f hlt, gt64, List.length_map, decide_eq_false h64, rs_r19_Canonical, Bool.not_eq_true', Bool.not_eq_false', go_sem, eq_self, Nat.reduceEqDiff, Nat.reduceBEq, Nat.reduceAdd, Nat.reduceLeDiff, reduceIte, reduceCtorEq, tysA, tyA, Ty.enc, Ty.encs])
      | (refine Run.condM ?_; simp -implicitDefEqProofs only [lt_f hlt, gt64, List.length_map, decide_eq_false h64, rs_r19_Canonical, Bool.not_eq_true', Bool.not_eq_false', go_sem, eq_self, Nat.reduceEqDiff, Nat.reduceBEq, Nat.reduceAdd, Nat.reduceLeDiff, reduceIte, reduceCtorEq, tysA, tyA, Ty.enc, Ty.encs])
      | (refine Run.retP g_r19_Canonical (Heap.le_refl _) ?_; simp -implicitDefEqProofs only [rs_r19_Canonical, lt_f hlt, gt64, List.length_map, decide_eq_false h64, go_sem, eq_self, Nat.reduceEqDiff, Nat.reduceBEq, Nat.reduceAdd, Nat.reduceLeDiff, reduceIte, reduceCtorEq, tysA, tyA, Ty.enc, Ty.encs])
      | (refine xo_gs rfl (fun h => ?_) (fun h => ?_) <;> first | (cases h; done) | simp -implicitDefEqProofs only [lt_f hlt, gt64, List.length_map, decide_eq_false h64, rs_r19_Canonical, Bool.not_eq_true', Bool.not_eq_false', go_sem, eq_self, Nat.reduceEqDiff, Nat.reduceBEq, Nat.reduceAdd, Nat.reduceLeDiff, reduceIte, reduceCtorEq, tysA, tyA, Ty.enc, Ty.encs])
      | (refine ⟨fun h => ?_, fun h => ?_⟩ <;> first | (cases h; done) | (simp -implicitDefEqProofs only [h]; done) | (try simp -implicitDefEqProofs only [h]))
      | fail))
      simp [canP, hok, h64, errR, resA, linA]
    by_cases b1 : c < -1099511627776
    · (repeat' (first
      | refine Run.seq ?_
      | refine Run.skip ?_
      | refine Run.block ?_
      | refine Run.blk ?_
      | refine Run.scope ?_
      | refine Run.scp ?_
      | (refine Run.exit rfl ?_)
      | (refine Run.reg mixed ?_; simp -implicitDefEqProofs only [lt_f hlt, gt64, List.length_map, decide_eq_true h64, decide_eq_true b1, rs_r19_Canonical, Bool.not_eq_true', Bool.not_eq_false', go_sem, eq_self, Nat.reduceEqDiff, Nat.reduceBEq, Nat.reduceAdd, Nat.reduceLeDiff, reduceIte, reduceCtorEq, tysA, tyA, Ty.enc, Ty.encs])
      | (refine Run.condM ?_; simp -implicitDefEqProofs only [lt_f hlt, gt64, List.length_map, decide_eq_true h64, decide_eq_true b1, rs_r19_Canonical, Bool.not_eq_true', Bool.not_eq_false', go_sem, eq_self, Nat.reduceEqDiff, Nat.reduceBEq, Nat.reduceAdd, Nat.reduceLeDiff, reduceIte, reduceCtorEq, tysA, tyA, Ty.enc, Ty.encs])
      | (refine Run.retP g_r19_Canonical (Heap.le_refl _) ?_; simp -implicitDefEqProofs only [rs_r19_Canonical, lt_f hlt, gt64, List.length_map, decide_eq_true h64, decide_eq_true b1, go_sem, eq_self, Nat.reduceEqDiff, Nat.reduceBEq, Nat.reduceAdd, Nat.reduceLeDiff, reduceIte, reduceCtorEq, tysA, tyA, Ty.enc, Ty.encs])
      | (refine xo_gs rfl (fun h => ?_) (fun h => ?_) <;> first | (cases h; done) | simp -implicitDefEqProofs only [lt_f hlt, gt64, List.length_map, decide_eq_true h64, decide_eq_true b1, rs_r19_Canonical, Bool.not_eq_true', Bool.not_eq_false', go_sem, eq_self, Nat.reduceEqDiff, Nat.reduceBEq, Nat.reduceAdd, Nat.reduceLeDiff, reduceIte, reduceCtorEq, tysA, tyA, Ty.enc, Ty.encs])
      | (refine ⟨fun h => ?_, fun h => ?_⟩ <;> first | (cases h; done) | (simp -implicitDefEqProofs only [h]; done) | (try simp -implicitDefEqProofs only [h]))
      | fail))
      have : lgB c = true := by simp [lgB]; omega
      simp [canP, hok, this, errR, resA, linA]
    by_cases b2 : 1099511627776 < c
    · (repeat' (first
      | refine Run.seq ?_
      | refine Run.skip ?_
      | refine Run.block ?_
      | refine Run.blk ?_
      | refine Run.scope ?_
      | refine Run.scp ?_
      | (refine Run.exit rfl ?_)
      | (refine Run.reg mixed ?_; simp -implicitDefEqProofs only [lt_f hlt, gt64, List.length_map, decide_eq_true h64, decide_eq_false b1, decide_eq_true b2, rs_r19_Canonical, Bool.not_eq_true', Bool.not_eq_false', go_sem, eq_self, Nat.reduceEqDiff, Nat.reduceBEq, Nat.reduceAdd, Nat.reduceLeDiff, reduceIte, reduceCtorEq, tysA, tyA, Ty.enc, Ty.encs])
      | (refine Run.condM ?_; simp -implicitDefEqProofs only [lt_f hlt, gt64, List.length_map, decide_eq_true h64, decide_eq_false b1, decide_eq_true b2, rs_r19_Canonical, Bool.not_eq_true', Bool.not_eq_false', go_sem, eq_self, Nat.reduceEqDiff, Nat.reduceBEq, Nat.reduceAdd, Nat.reduceLeDiff, reduceIte, reduceCtorEq, tysA, tyA, Ty.enc, Ty.encs])
      | (refine Run.retP g_r19_Canonical (Heap.le_refl _) ?_; simp -implicitDefEqProofs only [rs_r19_Canonical, lt_f hlt, gt64, List.length_map, decide_eq_true h64, decide_eq_false b1, decide_eq_true b2, go_sem, eq_self, Nat.reduceEqDiff, Nat.reduceBEq, Nat.reduceAdd, Nat.reduceLeDiff, reduceIte, reduceCtorEq, tysA, tyA, Ty.enc, Ty.encs])
      | (refine xo_gs rfl (fun h => ?_) (fun h => ?_) <;> first | (cases h; done) | simp -implicitDefEqProofs only [lt_f hlt, gt64, List.length_map, decide_eq_true h64, decide_eq_false b1, decide_eq_true b2, rs_r19_Canonical, Bool.not_eq_true', Bool.not_eq_false', go_sem, eq_self, Nat.reduceEqDiff, Nat.reduceBEq, Nat.reduceAdd, Nat.reduceLeDiff, reduceIte, reduceCtorEq, tysA, tyA, Ty.enc, Ty.encs])
      | (refine ⟨fun h => ?_, fun h => ?_⟩ <;> first | (cases h; done) | (simp -implicitDefEqProofs only [h]; done) | (try simp -implicitDefEqProofs only [h]))
      | fail))
      have : lgB c = true := by simp [lgB]; omega
      simp [canP, hok, this, errR, resA, linA]
    have hlg : lgB c = false := by simp [lgB]; omega
    (repeat' (first
      | refine Run.seq ?_
      | refine Run.skip ?_
      | refine Run.block ?_
      | refine Run.blk ?_
      | refine Run.scope ?_
      | refine Run.scp ?_
      | (refine Run.exit rfl ?_)
      | (refine Run.reg mixed ?_; simp -implicitDefEqProofs only [lt_f hlt, gt64, List.length_map, decide_eq_true h64, decide_eq_false b1, decide_eq_false b2, rs_r19_Canonical, Bool.not_eq_true', Bool.not_eq_false', go_sem, eq_self, Nat.reduceEqDiff, Nat.reduceBEq, Nat.reduceAdd, Nat.reduceLeDiff, reduceIte, reduceCtorEq, tysA, tyA, Ty.enc, Ty.encs])
      | (refine Run.condM ?_; simp -implicitDefEqProofs only [lt_f hlt, gt64, List.length_map, decide_eq_true h64, decide_eq_false b1, decide_eq_false b2, rs_r19_Canonical, Bool.not_eq_true', Bool.not_eq_false', go_sem, eq_self, Nat.reduceEqDiff, Nat.reduceBEq, Nat.reduceAdd, Nat.reduceLeDiff, reduceIte, reduceCtorEq, tysA, tyA, Ty.enc, Ty.encs])
      | (refine xo_gs rfl (fun h => ?_) (fun h => ?_) <;> first | (cases h; done) | simp -implicitDefEqProofs only [lt_f hlt, gt64, List.length_map, decide_eq_true h64, decide_eq_false b1, decide_eq_false b2, rs_r19_Canonical, Bool.not_eq_true', Bool.not_eq_false', go_sem, eq_self, Nat.reduceEqDiff, Nat.reduceBEq, Nat.reduceAdd, Nat.reduceLeDiff, reduceIte, reduceCtorEq, tysA, tyA, Ty.enc, Ty.encs])
      | (refine ⟨fun h => ?_, fun h => ?_⟩ <;> first | (cases h; done) | (simp -implicitDefEqProofs only [h]; done) | (try simp -implicitDefEqProofs only [h]))
      | fail))
    refine Run.loopA ?_
    refine Run.loopI ((fun (a2 : AV) (a6 : AV) (a45 : AV) (a46 : AV) => fun (y : Nat × AV × Heap) => put 2 a2 (put 6 a6 (put 45 a45 (put 46 a46 (put 47 (.d (.int .i64 y.1)) U))))) _ _ _ _) (fun y => putL 2 [.d (.int .i64 0), .nils] (putL 6 [.d (.int .i64 c), y.2.1] E)) (fun y => y.2.2)
      (fun y => y.1 ≤ ts.length ∧ (ts.take y.1).all (fun x => !lgB x.2) = true ∧ MR σ (addAll [] (ts.take y.1)) y.2.1 y.2.2) (fun y => ts.length - y.1) ?_ (0, .nils, σ) ⟨by simp, by simp, .inl ⟨rfl, rfl, rfl⟩⟩
    rintro ⟨q, v, σ2⟩ ⟨hq, hok2, hm⟩ ih2
    simp only at hq hok2 hm
    have hbq : Bnd 1099511627776 (ts.take q) := fun x hx => by
      have := (List.all_eq_true.1 hok2) x hx
      simp only [Bool.not_eq_true'] at this
      exact (lgB_iff _).1 this
    have hacc := addAll_bnd (l := ts.take q) (acc := []) (B := 0) (by intro x hx; cases hx) (D := 1099511627776) (by omega) hbq
    have hal := addAll_len (ts.take q) []
    have hlt' : (ts.take q).length = q := by simp; omega
    rw [hlt'] at hacc hal
    simp only [List.length_nil, Nat.zero_add] at hal
    by_cases hql : q < ts.length
    · obtain ⟨x, hx⟩ := ex_at hql
      have hw1 : IntKind.i64.wrap ((q : Int) + 1) = ((q + 1 : Nat) : Int) := by rw [wrap_pos (by omega) (by omega)]; omega
      have hx' := tm_at hx
      by_cases a1 : x.2 < -1099511627776
      · (repeat' (first
      | refine Run.seq ?_
      | refine Run.skip ?_
      | refine Run.block ?_
      | refine Run.blk ?_
      | refine Run.scope ?_
      | refine Run.scp ?_
      | (refine Run.exit rfl ?_)
      | (refine Run.reg mixed ?_; simp -implicitDefEqProofs only [lt_t hql, hx', decide_eq_true a1, rs_r19_Canonical, Bool.not_eq_true', Bool.not_eq_false', go_sem, eq_self, Nat.reduceEqDiff, Nat.reduceBEq, Nat.reduceAdd, Nat.reduceLeDiff, reduceIte, reduceCtorEq, tysA, tyA, Ty.enc, Ty.encs])
      | (refine Run.condM ?_; simp -implicitDefEqProofs only [lt_t hql, hx', decide_eq_true a1, rs_r19_Canonical, Bool.not_eq_true', Bool.not_eq_false', go_sem, eq_self, Nat.reduceEqDiff, Nat.reduceBEq, Nat.reduceAdd, Nat.reduceLeDiff, reduceIte, reduceCtorEq, tysA, tyA, Ty.enc, Ty.encs])
      | (refine Run.retP g_r19_Canonical (MR.le hm) ?_; (try simp -implicitDefEqProofs only [lt_t hql, hx', decide_eq_true a1, rs_r19_Canonical, Bool.not_eq_true', Bool.not_eq_false', go_sem, eq_self, Nat.reduceEqDiff, Nat.reduceBEq, Nat.reduceAdd, Nat.reduceLeDiff, reduceIte, reduceCtorEq, tysA, tyA, Ty.enc, Ty.encs]))
      | (refine Run.retP g_r19_Canonical (Heap.le_refl _) ?_; simp -implicitDefEqProofs only [rs_r19_Canonical, lt_t hql, hx', decide_eq_true a1, go_sem, eq_self, Nat.reduceEqDiff, Nat.reduceBEq, Nat.reduceAdd, Nat.reduceLeDiff, reduceIte, reduceCtorEq, tysA, tyA, Ty.enc, Ty.encs])
      | (refine xo_gs rfl (fun h => ?_) (fun h => ?_) <;> first | (cases h; done) | simp -implicitDefEqProofs only [lt_t hql, hx', decide_eq_true a1, rs_r19_Canonical, Bool.not_eq_true', Bool.not_eq_false', go_sem, eq_self, Nat.reduceEqDiff, Nat.reduceBEq, Nat.reduceAdd, Nat.reduceLeDiff, reduceIte, reduceCtorEq, tysA, tyA, Ty.enc, Ty.encs])
      | (refine ⟨fun h => ?_, fun h => ?_⟩ <;> first | (cases h; done) | (simp -implicitDefEqProofs only [h]; done) | (try simp -implicitDefEqProofs only [h]))
      | fail))
        have := not_all (p := fun x => !lgB x.2) hx (show (!lgB x.2) = false by simp [lgB]; omega)
        simp [rs_r19_Canonical, canP, hok, h64, hlg, this, errR, resA, linA]
      by_cases a2 : 1099511627776 < x.2
      · (repeat' (first
      | refine Run.seq ?_
      | refine Run.skip ?_
      | refine Run.block ?_
      | refine Run.blk ?_
      | refine Run.scope ?_
      | refine Run.scp ?_
      | (refine Run.exit rfl ?_)
      | (refine Run.reg mixed ?_; simp -implicitDefEqProofs only [lt_t hql, hx', decide_eq_false a1, decide_eq_true a2, rs_r19_Canonical, Bool.not_eq_true', Bool.not_eq_false', go_sem, eq_self, Nat.reduceEqDiff, Nat.reduceBEq, Nat.reduceAdd, Nat.reduceLeDiff, reduceIte, reduceCtorEq, tysA, tyA, Ty.enc, Ty.encs])
      | (refine Run.condM ?_; simp -implicitDefEqProofs only [lt_t hql, hx', decide_eq_false a1, decide_eq_true a2, rs_r19_Canonical, Bool.not_eq_true', Bool.not_eq_false', go_sem, eq_self, Nat.reduceEqDiff, Nat.reduceBEq, Nat.reduceAdd, Nat.reduceLeDiff, reduceIte, reduceCtorEq, tysA, tyA, Ty.enc, Ty.encs])
      | (refine Run.retP g_r19_Canonical (MR.le hm) ?_; (try simp -implicitDefEqProofs only [lt_t hql, hx', decide_eq_false a1, decide_eq_true a2, rs_r19_Canonical, Bool.not_eq_true', Bool.not_eq_false', go_sem, eq_self, Nat.reduceEqDiff, Nat.reduceBEq, Nat.reduceAdd, Nat.reduceLeDiff, reduceIte, reduceCtorEq, tysA, tyA, Ty.enc, Ty.encs]))
      | (refine Run.retP g_r19_Canonical (Heap.le_refl _) ?_; simp -implicitDefEqProofs only [rs_r19_Canonical, lt_t hql, hx', decide_eq_false a1, decide_eq_true a2, go_sem, eq_self, Nat.reduceEqDiff, Nat.reduceBEq, Nat.reduceAdd, Nat.reduceLeDiff, reduceIte, reduceCtorEq, tysA, tyA, Ty.enc, Ty.encs])
      | (refine xo_gs rfl (fun h => ?_) (fun h => ?_) <;> first | (cases h; done) | simp -implicitDefEqProofs only [lt_t hql, hx', decide_eq_false a1, decide_eq_true a2, rs_r19_Canonical, Bool.not_eq_true', Bool.not_eq_false', go_sem, eq_self, Nat.reduceEqDiff, Nat.reduceBEq, Nat.reduceAdd, Nat.reduceLeDiff, reduceIte, reduceCtorEq, tysA, tyA, Ty.enc, Ty.encs])
      | (refine ⟨fun h => ?_, fun h => ?_⟩ <;> first | (cases h; done) | (simp -implicitDefEqProofs only [h]; done) | (try simp -implicitDefEqProofs only [h]))
      | fail))
        have := not_all (p := fun x => !lgB x.2) hx (show (!lgB x.2) = false by simp [lgB]; omega)
        simp [rs_r19_Canonical, canP, hok, h64, hlg, this, errR, resA, linA]
      have hla : lgB x.2 = false := by simp [lgB]; omega
      have hws : ∀ y ∈ addAll [] (ts.take q), IntKind.i64.wrap (y.2 + x.2) = y.2 + x.2 := fun y hy => by
        have := hacc y hy
        exact wrap_id (by omega) (by omega)
      (repeat' (first
      | refine Run.seq ?_
      | refine Run.skip ?_
      | refine Run.block ?_
      | refine Run.blk ?_
      | refine Run.scope ?_
      | refine Run.scp ?_
      | (refine Run.exit rfl ?_)
      | (refine Run.reg mixed ?_; simp -implicitDefEqProofs only [lt_t hql, hx', hw1, decide_eq_false a1, decide_eq_false a2, hm.noLp.2.2.1, hm.noLp.2.1, hm.noLp.2.2.2, rs_r19_Canonical, Bool.not_eq_true', Bool.not_eq_false', go_sem, eq_self, Nat.reduceEqDiff, Nat.reduceBEq, Nat.reduceAdd, Nat.reduceLeDiff, reduceIte, reduceCtorEq, tysA, tyA, Ty.enc, Ty.encs])
      | (refine Run.condM ?_; simp -implicitDefEqProofs only [lt_t hql, hx', hw1, decide_eq_false a1, decide_eq_false a2, hm.noLp.2.2.1, hm.noLp.2.1, hm.noLp.2.2.2, rs_r19_Canonical, Bool.not_eq_true', Bool.not_eq_false', go_sem, eq_self, Nat.reduceEqDiff, Nat.reduceBEq, Nat.reduceAdd, Nat.reduceLeDiff, reduceIte, reduceCtorEq, tysA, tyA, Ty.enc, Ty.encs])
      | (refine XCall.mk (by simp only [List.all_cons, List.all_nil, hm.noLp.1, noLp_d, Bool.and_self]) (sum_ok x.1 x.2 hm (by omega) hws) (fun v2 σ3 hm2 => ?_); (try simp -implicitDefEqProofs only [lt_t hql, hx', hw1, decide_eq_false a1, decide_eq_false a2, hm.noLp.2.2.1, hm.noLp.2.1, hm.noLp.2.2.2, rs_r19_Canonical, Bool.not_eq_true', Bool.not_eq_false', go_sem, eq_self, Nat.reduceEqDiff, Nat.reduceBEq, Nat.reduceAdd, Nat.reduceLeDiff, reduceIte, reduceCtorEq, tysA, tyA, Ty.enc, Ty.encs]))
      | ((simp -implicitDefEqProofs only [hm2.noLp.2.2.1, hm2.noLp.2.1, go_sem, eq_self, Nat.reduceEqDiff, Nat.reduceBEq, Nat.reduceAdd, Nat.reduceLeDiff, reduceIte, reduceCtorEq, tysA, tyA, Ty.enc, Ty.encs]); (try simp -implicitDefEqProofs only [lt_t hql, hx', hw1, decide_eq_false a1, decide_eq_false a2, hm.noLp.2.2.1, hm.noLp.2.1, hm.noLp.2.2.2, rs_r19_Canonical, Bool.not_eq_true', Bool.not_eq_false', go_sem, eq_self, Nat.reduceEqDiff, Nat.reduceBEq, Nat.reduceAdd, Nat.reduceLeDiff, reduceIte, reduceCtorEq, tysA, tyA, Ty.enc, Ty.encs]))
      | (refine xo_gs rfl (fun h => ?_) (fun h => ?_) <;> first | (cases h; done) | simp -implicitDefEqProofs only [lt_t hql, hx', hw1, decide_eq_false a1, decide_eq_false a2, hm.noLp.2.2.1, hm.noLp.2.1, hm.noLp.2.2.2, rs_r19_Canonical, Bool.not_eq_true', Bool.not_eq_false', go_sem, eq_self, Nat.reduceEqDiff, Nat.reduceBEq, Nat.reduceAdd, Nat.reduceLeDiff, reduceIte, reduceCtorEq, tysA, tyA, Ty.enc, Ty.encs])
      | (refine ⟨fun h => ?_, fun h => ?_⟩ <;> first | (cases h; done) | (simp -implicitDefEqProofs only [h]; done) | (try simp -implicitDefEqProofs only [h]))
      | fail))
      refine Run.prune [2, 6, 45, 46, 47] ?_; simp -implicitDefEqProofs only [go_sem, eq_self, Nat.reduceEqDiff, Nat.reduceBEq, Nat.reduceAdd, Nat.reduceLeDiff, reduceIte, reduceCtorEq, tysA, tyA, Ty.enc, Ty.encs]
      refine ih2 (q + 1, v2, σ3) ⟨by simp only; omega, all_take hok2 hx (by simp [hla]), ?_⟩ (by simp only; omega)
      simp only
      rw [List.take_add_one, hx]
      simp only [Option.toList_some]
      rw [addAll_snoc]
      exact hm2
    · rw [List.take_of_length_le (by omega)] at hok2 hm hal
      refine Run.frzMR 6 hm (by omega) rfl ?_
      (repeat' (first
      | refine Run.seq ?_
      | refine Run.skip ?_
      | refine Run.block ?_
      | refine Run.blk ?_
      | refine Run.scope ?_
      | refine Run.scp ?_
      | (refine Run.exit rfl ?_)
      | (refine Run.reg mixed ?_; simp -implicitDefEqProofs only [lt_f hql, resA, linA, tmsA, rs_r19_Canonical, Bool.not_eq_true', Bool.not_eq_false', go_sem, eq_self, Nat.reduceEqDiff, Nat.reduceBEq, Nat.reduceAdd, Nat.reduceLeDiff, reduceIte, reduceCtorEq, tysA, tyA, Ty.enc, Ty.encs])
      | (refine Run.condM ?_; simp -implicitDefEqProofs only [lt_f hql, resA, linA, tmsA, rs_r19_Canonical, Bool.not_eq_true', Bool.not_eq_false', go_sem, eq_self, Nat.reduceEqDiff, Nat.reduceBEq, Nat.reduceAdd, Nat.reduceLeDiff, reduceIte, reduceCtorEq, tysA, tyA, Ty.enc, Ty.encs])
      | (refine Run.retP g_r19_Canonical (Heap.le_refl _) ?_; simp -implicitDefEqProofs only [rs_r19_Canonical, lt_f hql, resA, linA, tmsA, go_sem, eq_self, Nat.reduceEqDiff, Nat.reduceBEq, Nat.reduceAdd, Nat.reduceLeDiff, reduceIte, reduceCtorEq, tysA, tyA, Ty.enc, Ty.encs])
      | (refine XCall.det (r19_checked_ok ⟨c, addAll [] ts⟩ _) ?_; simp -implicitDefEqProofs only [lt_f hql, resA, linA, tmsA, rs_r19_Canonical, Bool.not_eq_true', Bool.not_eq_false', go_sem, eq_self, Nat.reduceEqDiff, Nat.reduceBEq, Nat.reduceAdd, Nat.reduceLeDiff, reduceIte, reduceCtorEq, tysA, tyA, Ty.enc, Ty.encs])
      | (refine xo_gs rfl (fun h => ?_) (fun h => ?_) <;> first | (cases h; done) | simp -implicitDefEqProofs only [lt_f hql, resA, linA, tmsA, rs_r19_Canonical, Bool.not_eq_true', Bool.not_eq_false', go_sem, eq_self, Nat.reduceEqDiff, Nat.reduceBEq, Nat.reduceAdd, Nat.reduceLeDiff, reduceIte, reduceCtorEq, tysA, tyA, Ty.enc, Ty.encs])
      | (refine ⟨fun h => ?_, fun h => ?_⟩ <;> first | (cases h; done) | (simp -implicitDefEqProofs only [h]; done) | (try simp -implicitDefEqProofs only [h]))
      | fail))
      simp [canP, hok, h64, hlg, hok2, resA, linA, canTs]
end Go.Ab
