/- Sums of terms. Conditions: none. -/
import Derived.Test.YtdbpmhfepfpldaaDoorXGl
import Derived.Test.YtdbpmhfepfpldaaDoorXBs
import Derived.Shelf.SlSortCmp.NoneTotal
set_option linter.unusedSimpArgs false
set_option linter.unusedVariables false
namespace Go.Ab
open Go.Proofs

theorem sort_nil_ok (σ : Heap) : ACalls Tryd.prog 86 [.nils, .fn 87 [] []] σ (fun v σ' => v = .tup [] ∧ σ' = σ) := by
  intro base g Pr w0 w vs hr hv
  obtain ⟨v, u, rfl, h1, h2⟩ := hv.two
  cases h1
  refine Calls.mono (show Calls Tryd.prog 86 #[.slice none 0 0, u] w _ from AnyF.slices_SortFunc_none Tryd.sortLT none 0 u w) ?_
  rintro e w' ⟨rfl, rfl⟩
  exact ⟨_, .tup [], g, σ, rfl, .tup (vs := []) rfl (by simp), hr, Gh.le_refl g, KP.refl _ _, rfl, rfl⟩


theorem sorted_drop {l : Tms} (h : l.Pairwise (fun a b => a.1 ≤ b.1)) {k : Nat} {x : Int × Int} (hx : l[k]? = some x) : ∀ b ∈ l.drop k, x.1 ≤ b.1 := by
  intro b hb
  rw [drop_at hx] at hb
  have := h.drop (i := k)
  rw [drop_at hx] at this
  rcases List.mem_cons.1 hb with rfl | hb
  · omega
  · exact (List.pairwise_cons.1 this).1 b hb

theorem drop_sub {l : Tms} {k q : Nat} (h : k ≤ q) {b : Int × Int} (hb : b ∈ l.drop q) : b ∈ l.drop k := by
  obtain ⟨d, rfl⟩ : ∃ d, q = k + d := ⟨q - k, by omega⟩
  rw [← List.drop_drop] at hb
  exact List.mem_of_mem_drop hb
theorem mem_drop {l : Tms} {k q : Nat} (h : k ≤ q) {b : Int × Int} (hb : l[q]? = some b) : b ∈ l.drop k :=
  drop_sub h (by rw [drop_at hb]; exact List.mem_cons_self ..)

theorem Valid_plain {n : Int} {us : Tms} {v : AV} {σ : Heap} (hv : v.plain = .d (.sl (us.map tmR))) : ACalls Tryd.prog 35 [.agg [.d (.int .i64 n), v]] σ (fun v σ' => v = .d (.bool (validP ⟨n, us⟩)) ∧ σ' = σ) :=
  ACalls.plain (by simp only [AV.plains, AV.plain, hv]; exact linear_Valid_ok ⟨n, us⟩ σ)

theorem collect_ok (n : Int) (ts : Tms) (σ : Heap) (hb : Bd ts) : ACalls Tryd.prog 57 [.d (.int .i64 n), tmsA ts] σ (fun v σ' => v = resA (chk n (canTs ts)) ∧ σ' = σ) := by
  have hbl := hb.1
  refine i_linear_collect (by simp) ?_
  rw [argF_2, tmsA]
  (repeat' (first
      | refine Run.seq ?_
      | refine Run.skip ?_
      | refine Run.block ?_
      | refine Run.blk ?_
      | refine Run.scope ?_
      | refine Run.scp ?_
      | (refine Run.exit rfl ?_)
      | (refine Run.reg mixed ?_; simp -implicitDefEqProofs only [rs_linear_collect, Bool.not_eq_true', Bool.not_eq_false', go_sem, eq_self, Nat.reduceEqDiff, Nat.reduceBEq, Nat.reduceAdd, Nat.reduceLeDiff, reduceIte, reduceCtorEq, tysA, tyA, Ty.enc, Ty.encs])
      | (refine Run.condM ?_; simp -implicitDefEqProofs only [rs_linear_collect, Bool.not_eq_true', Bool.not_eq_false', go_sem, eq_self, Nat.reduceEqDiff, Nat.reduceBEq, Nat.reduceAdd, Nat.reduceLeDiff, reduceIte, reduceCtorEq, tysA, tyA, Ty.enc, Ty.encs])
      | (refine XCall.mk rfl (Clone_ok ts σ (by omega)) (fun v σ1 hm => ?_); (try simp -implicitDefEqProofs only [rs_linear_collect, Bool.not_eq_true', Bool.not_eq_false', go_sem, eq_self, Nat.reduceEqDiff, Nat.reduceBEq, Nat.reduceAdd, Nat.reduceLeDiff, reduceIte, reduceCtorEq, tysA, tyA, Ty.enc, Ty.encs]))
      | (refine xo_gs rfl (fun h => ?_) (fun h => ?_) <;> first | (cases h; done) | simp -implicitDefEqProofs only [rs_linear_collect, Bool.not_eq_true', Bool.not_eq_false', go_sem, eq_self, Nat.reduceEqDiff, Nat.reduceBEq, Nat.reduceAdd, Nat.reduceLeDiff, reduceIte, reduceCtorEq, tysA, tyA, Ty.enc, Ty.encs])
      | (refine ⟨fun h => ?_, fun h => ?_⟩ <;> first | (cases h; done) | (simp -implicitDefEqProofs only [h]; done) | (try simp -implicitDefEqProofs only [h]))
      | fail))
  rcases hm with ⟨rfl, rfl, rfl⟩ | ⟨j, hj, rfl, rfl⟩
  · have c0 : decide ((0 : Int) < 0) = false := by decide
    cases hv : validP ⟨n, []⟩ with
    | true =>
      (repeat' (first
      | refine Run.seq ?_
      | refine Run.skip ?_
      | refine Run.block ?_
      | refine Run.blk ?_
      | refine Run.scope ?_
      | refine Run.scp ?_
      | (refine Run.exit rfl ?_)
      | (refine Run.reg mixed ?_; simp -implicitDefEqProofs only [c0, hv, rs_linear_collect, Bool.not_eq_true', Bool.not_eq_false', go_sem, eq_self, Nat.reduceEqDiff, Nat.reduceBEq, Nat.reduceAdd, Nat.reduceLeDiff, reduceIte, reduceCtorEq, tysA, tyA, Ty.enc, Ty.encs])
      | (refine Run.condM ?_; simp -implicitDefEqProofs only [c0, hv, rs_linear_collect, Bool.not_eq_true', Bool.not_eq_false', go_sem, eq_self, Nat.reduceEqDiff, Nat.reduceBEq, Nat.reduceAdd, Nat.reduceLeDiff, reduceIte, reduceCtorEq, tysA, tyA, Ty.enc, Ty.encs])
      | (refine Run.loop ?_; (try simp -implicitDefEqProofs only [c0, hv, rs_linear_collect, Bool.not_eq_true', Bool.not_eq_false', go_sem, eq_self, Nat.reduceEqDiff, Nat.reduceBEq, Nat.reduceAdd, Nat.reduceLeDiff, reduceIte, reduceCtorEq, tysA, tyA, Ty.enc, Ty.encs]))
      | (refine Run.retP g_linear_collect (Heap.le_refl _) ?_; simp -implicitDefEqProofs only [rs_linear_collect, c0, hv, go_sem, eq_self, Nat.reduceEqDiff, Nat.reduceBEq, Nat.reduceAdd, Nat.reduceLeDiff, reduceIte, reduceCtorEq, tysA, tyA, Ty.enc, Ty.encs])
      | (refine XCall.det (sort_nil_ok _) ?_; simp -implicitDefEqProofs only [c0, hv, rs_linear_collect, Bool.not_eq_true', Bool.not_eq_false', go_sem, eq_self, Nat.reduceEqDiff, Nat.reduceBEq, Nat.reduceAdd, Nat.reduceLeDiff, reduceIte, reduceCtorEq, tysA, tyA, Ty.enc, Ty.encs])
      | (refine XCall.det (Valid_plain (us := []) (plain_nils)) ?_; simp -implicitDefEqProofs only [c0, hv, rs_linear_collect, Bool.not_eq_true', Bool.not_eq_false', go_sem, eq_self, Nat.reduceEqDiff, Nat.reduceBEq, Nat.reduceAdd, Nat.reduceLeDiff, reduceIte, reduceCtorEq, tysA, tyA, Ty.enc, Ty.encs])
      | (refine xo_gs rfl (fun h => ?_) (fun h => ?_) <;> first | (cases h; done) | simp -implicitDefEqProofs only [c0, hv, rs_linear_collect, Bool.not_eq_true', Bool.not_eq_false', go_sem, eq_self, Nat.reduceEqDiff, Nat.reduceBEq, Nat.reduceAdd, Nat.reduceLeDiff, reduceIte, reduceCtorEq, tysA, tyA, Ty.enc, Ty.encs])
      | (refine ⟨fun h => ?_, fun h => ?_⟩ <;> first | (cases h; done) | (simp -implicitDefEqProofs only [h]; done) | (try simp -implicitDefEqProofs only [h]))
      | fail))
      simp [resA, chk, canTs, addAll, hv, linA]
    | false =>
      (repeat' (first
      | refine Run.seq ?_
      | refine Run.skip ?_
      | refine Run.block ?_
      | refine Run.blk ?_
      | refine Run.scope ?_
      | refine Run.scp ?_
      | (refine Run.exit rfl ?_)
      | (refine Run.reg mixed ?_; simp -implicitDefEqProofs only [c0, hv, rs_linear_collect, Bool.not_eq_true', Bool.not_eq_false', go_sem, eq_self, Nat.reduceEqDiff, Nat.reduceBEq, Nat.reduceAdd, Nat.reduceLeDiff, reduceIte, reduceCtorEq, tysA, tyA, Ty.enc, Ty.encs])
      | (refine Run.condM ?_; simp -implicitDefEqProofs only [c0, hv, rs_linear_collect, Bool.not_eq_true', Bool.not_eq_false', go_sem, eq_self, Nat.reduceEqDiff, Nat.reduceBEq, Nat.reduceAdd, Nat.reduceLeDiff, reduceIte, reduceCtorEq, tysA, tyA, Ty.enc, Ty.encs])
      | (refine Run.loop ?_; (try simp -implicitDefEqProofs only [c0, hv, rs_linear_collect, Bool.not_eq_true', Bool.not_eq_false', go_sem, eq_self, Nat.reduceEqDiff, Nat.reduceBEq, Nat.reduceAdd, Nat.reduceLeDiff, reduceIte, reduceCtorEq, tysA, tyA, Ty.enc, Ty.encs]))
      | (refine Run.retP g_linear_collect (Heap.le_refl _) ?_; simp -implicitDefEqProofs only [rs_linear_collect, c0, hv, go_sem, eq_self, Nat.reduceEqDiff, Nat.reduceBEq, Nat.reduceAdd, Nat.reduceLeDiff, reduceIte, reduceCtorEq, tysA, tyA, Ty.enc, Ty.encs])
      | (refine XCall.det (sort_nil_ok _) ?_; simp -implicitDefEqProofs only [c0, hv, rs_linear_collect, Bool.not_eq_true', Bool.not_eq_false', go_sem, eq_self, Nat.reduceEqDiff, Nat.reduceBEq, Nat.reduceAdd, Nat.reduceLeDiff, reduceIte, reduceCtorEq, tysA, tyA, Ty.enc, Ty.encs])
      | (refine XCall.det (Valid_plain (us := []) (plain_nils)) ?_; simp -implicitDefEqProofs only [c0, hv, rs_linear_collect, Bool.not_eq_true', Bool.not_eq_false', go_sem, eq_self, Nat.reduceEqDiff, Nat.reduceBEq, Nat.reduceAdd, Nat.reduceLeDiff, reduceIte, reduceCtorEq, tysA, tyA, Ty.enc, Ty.encs])
      | (refine xo_gs rfl (fun h => ?_) (fun h => ?_) <;> first | (cases h; done) | simp -implicitDefEqProofs only [c0, hv, rs_linear_collect, Bool.not_eq_true', Bool.not_eq_false', go_sem, eq_self, Nat.reduceEqDiff, Nat.reduceBEq, Nat.reduceAdd, Nat.reduceLeDiff, reduceIte, reduceCtorEq, tysA, tyA, Ty.enc, Ty.encs])
      | (refine ⟨fun h => ?_, fun h => ?_⟩ <;> first | (cases h; done) | (simp -implicitDefEqProofs only [h]; done) | (try simp -implicitDefEqProofs only [h]))
      | fail))
      simp [resA, chk, canTs, addAll, hv, linA]
  · (repeat' (first
      | refine Run.seq ?_
      | refine Run.skip ?_
      | refine Run.block ?_
      | refine Run.blk ?_
      | refine Run.scope ?_
      | refine Run.scp ?_
      | (refine Run.exit rfl ?_)
      | (refine Run.reg mixed ?_; simp -implicitDefEqProofs only [rs_linear_collect, Bool.not_eq_true', Bool.not_eq_false', go_sem, eq_self, Nat.reduceEqDiff, Nat.reduceBEq, Nat.reduceAdd, Nat.reduceLeDiff, reduceIte, reduceCtorEq, tysA, tyA, Ty.enc, Ty.encs])
      | (refine Run.condM ?_; simp -implicitDefEqProofs only [rs_linear_collect, Bool.not_eq_true', Bool.not_eq_false', go_sem, eq_self, Nat.reduceEqDiff, Nat.reduceBEq, Nat.reduceAdd, Nat.reduceLeDiff, reduceIte, reduceCtorEq, tysA, tyA, Ty.enc, Ty.encs])
      | (refine XCall.mk rfl (sort_ok (l := ts) (by omega) (by simp only [setBlk_get, if_true])) ?_; (try simp -implicitDefEqProofs only [rs_linear_collect, Bool.not_eq_true', Bool.not_eq_false', go_sem, eq_self, Nat.reduceEqDiff, Nat.reduceBEq, Nat.reduceAdd, Nat.reduceLeDiff, reduceIte, reduceCtorEq, tysA, tyA, Ty.enc, Ty.encs]))
      | (refine xo_gs rfl (fun h => ?_) (fun h => ?_) <;> first | (cases h; done) | simp -implicitDefEqProofs only [rs_linear_collect, Bool.not_eq_true', Bool.not_eq_false', go_sem, eq_self, Nat.reduceEqDiff, Nat.reduceBEq, Nat.reduceAdd, Nat.reduceLeDiff, reduceIte, reduceCtorEq, tysA, tyA, Ty.enc, Ty.encs])
      | (refine ⟨fun h => ?_, fun h => ?_⟩ <;> first | (cases h; done) | (simp -implicitDefEqProofs only [h]; done) | (try simp -implicitDefEqProofs only [h]))
      | fail))
    rintro v σ' ⟨rfl, l, hp, hs, rfl⟩
    have hlen : l.length = ts.length := hp.length_eq
    have hlb : ∀ x ∈ l, -2199023255552 ≤ x.2 ∧ x.2 ≤ 2199023255552 := fun x hx => hb.2 x (hp.mem_iff.1 hx)
    (repeat' (first
      | refine Run.seq ?_
      | refine Run.skip ?_
      | refine Run.block ?_
      | refine Run.blk ?_
      | refine Run.scope ?_
      | refine Run.scp ?_
      | (refine Run.exit rfl ?_)
      | (refine Run.reg mixed ?_; simp -implicitDefEqProofs only [rs_linear_collect, Bool.not_eq_true', Bool.not_eq_false', go_sem, eq_self, Nat.reduceEqDiff, Nat.reduceBEq, Nat.reduceAdd, Nat.reduceLeDiff, reduceIte, reduceCtorEq, tysA, tyA, Ty.enc, Ty.encs])
      | (refine Run.condM ?_; simp -implicitDefEqProofs only [rs_linear_collect, Bool.not_eq_true', Bool.not_eq_false', go_sem, eq_self, Nat.reduceEqDiff, Nat.reduceBEq, Nat.reduceAdd, Nat.reduceLeDiff, reduceIte, reduceCtorEq, tysA, tyA, Ty.enc, Ty.encs])
      | (refine xo_gs rfl (fun h => ?_) (fun h => ?_) <;> first | (cases h; done) | simp -implicitDefEqProofs only [rs_linear_collect, Bool.not_eq_true', Bool.not_eq_false', go_sem, eq_self, Nat.reduceEqDiff, Nat.reduceBEq, Nat.reduceAdd, Nat.reduceLeDiff, reduceIte, reduceCtorEq, tysA, tyA, Ty.enc, Ty.encs])
      | (refine ⟨fun h => ?_, fun h => ?_⟩ <;> first | (cases h; done) | (simp -implicitDefEqProofs only [h]; done) | (try simp -implicitDefEqProofs only [h]))
      | fail))
    refine Run.loopA ?_
    refine Run.loopI ((fun (a4 : AV) (a6 : AV) (a7 : AV) => fun (y : Nat × AV × Heap) => put 4 a4 (put 6 a6 (put 7 a7 (put 8 (.d (.int .i64 y.1)) U)))) _ _ _) (fun y => putL 4 [.d (.int .i64 0), .nils] (putL 6 [.d (.int .i64 n), y.2.1] E)) (fun y => y.2.2)
      (fun y => y.1 ≤ l.length ∧ ∃ out : Tms, OwnS (σ.setBlk j (prs l)) 49 2 (out.map tmR) y.2.1 y.2.2 ∧ out.length ≤ y.1 ∧ Asc out ∧ Nz out ∧ (∀ a ∈ out, ∀ b ∈ l.drop y.1, a.1 < b.1) ∧ ∀ v, csum v out + csum v (l.drop y.1) = csum v l)
      (fun y => l.length - y.1) ?_ (0, .nils, σ.setBlk j (prs l)) ⟨by simp, [], OwnS.nil _ _ _, by simp, .nil, (show Nz [] from fun x hx => by cases hx), (fun a ha => by cases ha), fun v => by simp [csum]⟩
    rintro ⟨k, v, σ1⟩ ⟨hk, out, ho, hol, hasc, hnz, hlt, hsum⟩ ih
    simp only at hk ho hol hlt hsum
    have hblk : σ1.blk j = some (prs l) := ho.le.blk j _ (by simp only [setBlk_get, if_true])
    by_cases hkl : k < ts.length
    · obtain ⟨x, hx⟩ := ex_at (show k < l.length by omega)
      obtain ⟨g1, g2⟩ := prs_get _ _ _ hx
      have hix : ((k : Int) < (ts.length : Int)) = True := by simp; omega
      (repeat' (first
      | refine Run.seq ?_
      | refine Run.skip ?_
      | refine Run.block ?_
      | refine Run.blk ?_
      | refine Run.scope ?_
      | refine Run.scp ?_
      | (refine Run.exit rfl ?_)
      | (refine Run.reg mixed ?_; simp -implicitDefEqProofs only [lt_t hkl, hix, hblk, g1, ho.lpOf, ho.cells, ho.cell, rs_linear_collect, Bool.not_eq_true', Bool.not_eq_false', go_sem, eq_self, Nat.reduceEqDiff, Nat.reduceBEq, Nat.reduceAdd, Nat.reduceLeDiff, reduceIte, reduceCtorEq, tysA, tyA, Ty.enc, Ty.encs])
      | (refine Run.condM ?_; simp -implicitDefEqProofs only [lt_t hkl, hix, hblk, g1, ho.lpOf, ho.cells, ho.cell, rs_linear_collect, Bool.not_eq_true', Bool.not_eq_false', go_sem, eq_self, Nat.reduceEqDiff, Nat.reduceBEq, Nat.reduceAdd, Nat.reduceLeDiff, reduceIte, reduceCtorEq, tysA, tyA, Ty.enc, Ty.encs])
      | (refine xo_gs rfl (fun h => ?_) (fun h => ?_) <;> first | (cases h; done) | simp -implicitDefEqProofs only [lt_t hkl, hix, hblk, g1, ho.lpOf, ho.cells, ho.cell, rs_linear_collect, Bool.not_eq_true', Bool.not_eq_false', go_sem, eq_self, Nat.reduceEqDiff, Nat.reduceBEq, Nat.reduceAdd, Nat.reduceLeDiff, reduceIte, reduceCtorEq, tysA, tyA, Ty.enc, Ty.encs])
      | (refine ⟨fun h => ?_, fun h => ?_⟩ <;> first | (cases h; done) | (simp -implicitDefEqProofs only [h]; done) | (try simp -implicitDefEqProofs only [h]))
      | fail))
      refine Run.loopA ?_
      refine Run.loopI ((fun (a4 : AV) (a6 : AV) (a7 : AV) (a9 : AV) => fun (z : Nat × Int) => put 4 a4 (put 6 a6 (put 7 a7 (put 8 (.d (.int .i64 z.1)) (put 9 a9 U))))) _ _ _ _) (fun z => putL 4 [.d (.int .i64 0), .nils] (putL 6 [.d (.int .i64 n), v] (putL 9 [.d (.int .i64 x.1), .d (.int .i64 z.2)] E))) (fun _ => σ1)
        (fun z => k ≤ z.1 ∧ z.1 ≤ l.length ∧ (z.1 = k → z.2 = 0) ∧ -2199023255552 * ((z.1 : Int) - k) ≤ z.2 ∧ z.2 ≤ 2199023255552 * ((z.1 : Int) - k) ∧ ∀ v, csum v (l.drop k) = (if x.1 = v then z.2 else 0) + csum v (l.drop z.1))
        (fun z => l.length - z.1) ?_ (k, 0) ⟨Nat.le_refl k, hk, fun _ => rfl, by simp, by simp, fun v => by simp⟩
      rintro ⟨q, acc⟩ ⟨hkq, hq, hz0, hb1, hb2, hcs⟩ ih2
      simp only at hkq hq hz0 hb1 hb2 hcs
      have hsx := sorted_drop hs hx
      by_cases hql : q < ts.length
      · obtain ⟨y, hy⟩ := ex_at (show q < l.length by omega)
        obtain ⟨e1, e2⟩ := prs_get _ _ _ hy
        have hiq : ((q : Int) < (ts.length : Int)) = True := by simp; omega
        have hw1 := wrap_succ (show q + 1 ≤ 9000000000000000000 by omega)
        cases he : (y.1 == x.1) with
        | true =>
          have hyb := hlb y (List.mem_of_getElem? hy)
          have hwa : IntKind.i64.wrap (acc + y.2) = acc + y.2 := wrap_id (by omega) (by omega)
          (repeat' (first
      | refine Run.seq ?_
      | refine Run.skip ?_
      | refine Run.block ?_
      | refine Run.blk ?_
      | refine Run.scope ?_
      | refine Run.scp ?_
      | (refine Run.exit rfl ?_)
      | (refine Run.reg mixed ?_; simp -implicitDefEqProofs only [lt_t hql, hiq, hblk, e1, e2, he, hw1, hwa, ho.lpOf, ho.cells, ho.cell, rs_linear_collect, Bool.not_eq_true', Bool.not_eq_false', go_sem, eq_self, Nat.reduceEqDiff, Nat.reduceBEq, Nat.reduceAdd, Nat.reduceLeDiff, reduceIte, reduceCtorEq, tysA, tyA, Ty.enc, Ty.encs])
      | (refine Run.condM ?_; simp -implicitDefEqProofs only [lt_t hql, hiq, hblk, e1, e2, he, hw1, hwa, ho.lpOf, ho.cells, ho.cell, rs_linear_collect, Bool.not_eq_true', Bool.not_eq_false', go_sem, eq_self, Nat.reduceEqDiff, Nat.reduceBEq, Nat.reduceAdd, Nat.reduceLeDiff, reduceIte, reduceCtorEq, tysA, tyA, Ty.enc, Ty.encs])
      | (refine xo_gs rfl (fun h => ?_) (fun h => ?_) <;> first | (cases h; done) | simp -implicitDefEqProofs only [lt_t hql, hiq, hblk, e1, e2, he, hw1, hwa, ho.lpOf, ho.cells, ho.cell, rs_linear_collect, Bool.not_eq_true', Bool.not_eq_false', go_sem, eq_self, Nat.reduceEqDiff, Nat.reduceBEq, Nat.reduceAdd, Nat.reduceLeDiff, reduceIte, reduceCtorEq, tysA, tyA, Ty.enc, Ty.encs])
      | (refine ⟨fun h => ?_, fun h => ?_⟩ <;> first | (cases h; done) | (simp -implicitDefEqProofs only [h]; done) | (try simp -implicitDefEqProofs only [h]))
      | fail))
          refine ih2 (q + 1, acc + y.2) ⟨by simp only; omega, by simp only; omega, fun h => by simp only at h; omega, by simp only; omega, by simp only; omega, fun v => ?_⟩ (by simp only; omega)
          rw [hcs v, drop_at hy]
          simp only [csum]
          have : y.1 = x.1 := by simpa using he
          rw [this]
          split <;> omega
        | false =>
          have hne : y.1 ≠ x.1 := by simpa using he
          have hkq' : k < q := by
            rcases Nat.lt_or_ge k q with h | h
            · exact h
            · have : q = k := by omega
              rw [this, hx] at hy; cases hy; exact absurd rfl hne
          have hall : ∀ b ∈ l.drop q, x.1 < b.1 := fun b hb => by
            have h1 := sorted_drop hs hy b hb
            have h2 := hsx y (mem_drop hkq hy)
            omega
          cases h0 : (acc != 0) with
          | false =>
            (repeat' (first
      | refine Run.seq ?_
      | refine Run.skip ?_
      | refine Run.block ?_
      | refine Run.blk ?_
      | refine Run.scope ?_
      | refine Run.scp ?_
      | (refine Run.exit rfl ?_)
      | (refine Run.reg mixed ?_; simp -implicitDefEqProofs only [lt_t hql, hiq, hblk, e1, e2, he, hw1, h0, ho.lpOf, ho.cells, ho.cell, rs_linear_collect, Bool.not_eq_true', Bool.not_eq_false', go_sem, eq_self, Nat.reduceEqDiff, Nat.reduceBEq, Nat.reduceAdd, Nat.reduceLeDiff, reduceIte, reduceCtorEq, tysA, tyA, Ty.enc, Ty.encs])
      | (refine Run.condM ?_; simp -implicitDefEqProofs only [lt_t hql, hiq, hblk, e1, e2, he, hw1, h0, ho.lpOf, ho.cells, ho.cell, rs_linear_collect, Bool.not_eq_true', Bool.not_eq_false', go_sem, eq_self, Nat.reduceEqDiff, Nat.reduceBEq, Nat.reduceAdd, Nat.reduceLeDiff, reduceIte, reduceCtorEq, tysA, tyA, Ty.enc, Ty.encs])
      | (refine xo_gs rfl (fun h => ?_) (fun h => ?_) <;> first | (cases h; done) | simp -implicitDefEqProofs only [lt_t hql, hiq, hblk, e1, e2, he, hw1, h0, ho.lpOf, ho.cells, ho.cell, rs_linear_collect, Bool.not_eq_true', Bool.not_eq_false', go_sem, eq_self, Nat.reduceEqDiff, Nat.reduceBEq, Nat.reduceAdd, Nat.reduceLeDiff, reduceIte, reduceCtorEq, tysA, tyA, Ty.enc, Ty.encs])
      | (refine ⟨fun h => ?_, fun h => ?_⟩ <;> first | (cases h; done) | (simp -implicitDefEqProofs only [h]; done) | (try simp -implicitDefEqProofs only [h]))
      | fail))
            refine Run.prune [4, 6, 7, 8] ?_; simp -implicitDefEqProofs only [go_sem, eq_self, Nat.reduceEqDiff, Nat.reduceBEq, Nat.reduceAdd, Nat.reduceLeDiff, reduceIte, reduceCtorEq, tysA, tyA, Ty.enc, Ty.encs]
            refine ih (q, v, σ1) ⟨by simp only; omega, out, ho, by simp only; omega, hasc, hnz, fun a ha b hb => hlt a ha b (drop_sub hkq hb), fun u => ?_⟩ (by simp only; omega)
            have h0' : acc = 0 := by simpa using h0
            have := hsum u
            rw [hcs u, h0'] at this
            simpa using this
          | true =>
            (repeat' (first
      | refine Run.seq ?_
      | refine Run.skip ?_
      | refine Run.block ?_
      | refine Run.blk ?_
      | refine Run.scope ?_
      | refine Run.scp ?_
      | (refine Run.exit rfl ?_)
      | (refine Run.reg mixed ?_; simp -implicitDefEqProofs only [lt_t hql, hiq, hblk, e1, e2, he, hw1, h0, ho.lpOf, ho.cells, ho.cell, rs_linear_collect, Bool.not_eq_true', Bool.not_eq_false', go_sem, eq_self, Nat.reduceEqDiff, Nat.reduceBEq, Nat.reduceAdd, Nat.reduceLeDiff, reduceIte, reduceCtorEq, tysA, tyA, Ty.enc, Ty.encs])
      | (refine Run.condM ?_; simp -implicitDefEqProofs only [lt_t hql, hiq, hblk, e1, e2, he, hw1, h0, ho.lpOf, ho.cells, ho.cell, rs_linear_collect, Bool.not_eq_true', Bool.not_eq_false', go_sem, eq_self, Nat.reduceEqDiff, Nat.reduceBEq, Nat.reduceAdd, Nat.reduceLeDiff, reduceIte, reduceCtorEq, tysA, tyA, Ty.enc, Ty.encs])
      | (refine XApp.own ho rfl (by simp) (by simp; omega) (by decide) (fun v2 σ2 ho2 hbk => ?_); (try simp -implicitDefEqProofs only [lt_t hql, hiq, hblk, e1, e2, he, hw1, h0, ho.lpOf, ho.cells, ho.cell, rs_linear_collect, Bool.not_eq_true', Bool.not_eq_false', go_sem, eq_self, Nat.reduceEqDiff, Nat.reduceBEq, Nat.reduceAdd, Nat.reduceLeDiff, reduceIte, reduceCtorEq, tysA, tyA, Ty.enc, Ty.encs]))
      | ((simp -implicitDefEqProofs only [ho2.cells, ho2.cell, go_sem, eq_self, Nat.reduceEqDiff, Nat.reduceBEq, Nat.reduceAdd, Nat.reduceLeDiff, reduceIte, reduceCtorEq, tysA, tyA, Ty.enc, Ty.encs]); (try simp -implicitDefEqProofs only [lt_t hql, hiq, hblk, e1, e2, he, hw1, h0, ho.lpOf, ho.cells, ho.cell, rs_linear_collect, Bool.not_eq_true', Bool.not_eq_false', go_sem, eq_self, Nat.reduceEqDiff, Nat.reduceBEq, Nat.reduceAdd, Nat.reduceLeDiff, reduceIte, reduceCtorEq, tysA, tyA, Ty.enc, Ty.encs]))
      | (refine xo_gs rfl (fun h => ?_) (fun h => ?_) <;> first | (cases h; done) | simp -implicitDefEqProofs only [lt_t hql, hiq, hblk, e1, e2, he, hw1, h0, ho.lpOf, ho.cells, ho.cell, rs_linear_collect, Bool.not_eq_true', Bool.not_eq_false', go_sem, eq_self, Nat.reduceEqDiff, Nat.reduceBEq, Nat.reduceAdd, Nat.reduceLeDiff, reduceIte, reduceCtorEq, tysA, tyA, Ty.enc, Ty.encs])
      | (refine ⟨fun h => ?_, fun h => ?_⟩ <;> first | (cases h; done) | (simp -implicitDefEqProofs only [h]; done) | (try simp -implicitDefEqProofs only [h]))
      | fail))
            have h0' : acc ≠ 0 := by simpa using h0
            refine ih (q, v2, σ2) ⟨by simp only; omega, out ++ [(x.1, acc)], by simpa [tmR] using ho2, by simp only [List.length_append, List.length_singleton]; omega, ?_, ?_, ?_, fun u => ?_⟩ (by simp only; omega)
            · refine List.pairwise_append.2 ⟨hasc, .cons (by simp) .nil, fun a ha b hb => ?_⟩
              simp only [List.mem_singleton] at hb; subst hb
              exact hlt a ha x (by rw [drop_at hx]; exact List.mem_cons_self ..)
            · intro a ha
              rcases List.mem_append.1 ha with ha | ha
              · exact hnz a ha
              · simp only [List.mem_singleton] at ha; subst ha; exact h0'
            · intro a ha b hb
              rcases List.mem_append.1 ha with ha | ha
              · exact hlt a ha b (drop_sub hkq hb)
              · simp only [List.mem_singleton] at ha; subst ha; exact hall b hb
            · have := hsum u
              rw [hcs u] at this
              rw [csum_append]
              simp only [csum]
              omega
      · have hkq' : k < q := by omega
        have hall : ∀ b ∈ l.drop q, x.1 < b.1 := fun b hb => by
          rw [List.drop_of_length_le (by omega)] at hb; cases hb
        cases h0 : (acc != 0) with
        | false =>
          (repeat' (first
      | refine Run.seq ?_
      | refine Run.skip ?_
      | refine Run.block ?_
      | refine Run.blk ?_
      | refine Run.scope ?_
      | refine Run.scp ?_
      | (refine Run.exit rfl ?_)
      | (refine Run.reg mixed ?_; simp -implicitDefEqProofs only [lt_f hql, h0, ho.lpOf, ho.cells, ho.cell, rs_linear_collect, Bool.not_eq_true', Bool.not_eq_false', go_sem, eq_self, Nat.reduceEqDiff, Nat.reduceBEq, Nat.reduceAdd, Nat.reduceLeDiff, reduceIte, reduceCtorEq, tysA, tyA, Ty.enc, Ty.encs])
      | (refine Run.condM ?_; simp -implicitDefEqProofs only [lt_f hql, h0, ho.lpOf, ho.cells, ho.cell, rs_linear_collect, Bool.not_eq_true', Bool.not_eq_false', go_sem, eq_self, Nat.reduceEqDiff, Nat.reduceBEq, Nat.reduceAdd, Nat.reduceLeDiff, reduceIte, reduceCtorEq, tysA, tyA, Ty.enc, Ty.encs])
      | (refine xo_gs rfl (fun h => ?_) (fun h => ?_) <;> first | (cases h; done) | simp -implicitDefEqProofs only [lt_f hql, h0, ho.lpOf, ho.cells, ho.cell, rs_linear_collect, Bool.not_eq_true', Bool.not_eq_false', go_sem, eq_self, Nat.reduceEqDiff, Nat.reduceBEq, Nat.reduceAdd, Nat.reduceLeDiff, reduceIte, reduceCtorEq, tysA, tyA, Ty.enc, Ty.encs])
      | (refine ⟨fun h => ?_, fun h => ?_⟩ <;> first | (cases h; done) | (simp -implicitDefEqProofs only [h]; done) | (try simp -implicitDefEqProofs only [h]))
      | fail))
          refine Run.prune [4, 6, 7, 8] ?_; simp -implicitDefEqProofs only [go_sem, eq_self, Nat.reduceEqDiff, Nat.reduceBEq, Nat.reduceAdd, Nat.reduceLeDiff, reduceIte, reduceCtorEq, tysA, tyA, Ty.enc, Ty.encs]
          refine ih (q, v, σ1) ⟨by simp only; omega, out, ho, by simp only; omega, hasc, hnz, fun a ha b hb => hlt a ha b (drop_sub hkq hb), fun u => ?_⟩ (by simp only; omega)
          have h0' : acc = 0 := by simpa using h0
          have := hsum u
          rw [hcs u, h0'] at this
          simpa using this
        | true =>
          (repeat' (first
      | refine Run.seq ?_
      | refine Run.skip ?_
      | refine Run.block ?_
      | refine Run.blk ?_
      | refine Run.scope ?_
      | refine Run.scp ?_
      | (refine Run.exit rfl ?_)
      | (refine Run.reg mixed ?_; simp -implicitDefEqProofs only [lt_f hql, h0, ho.lpOf, ho.cells, ho.cell, rs_linear_collect, Bool.not_eq_true', Bool.not_eq_false', go_sem, eq_self, Nat.reduceEqDiff, Nat.reduceBEq, Nat.reduceAdd, Nat.reduceLeDiff, reduceIte, reduceCtorEq, tysA, tyA, Ty.enc, Ty.encs])
      | (refine Run.condM ?_; simp -implicitDefEqProofs only [lt_f hql, h0, ho.lpOf, ho.cells, ho.cell, rs_linear_collect, Bool.not_eq_true', Bool.not_eq_false', go_sem, eq_self, Nat.reduceEqDiff, Nat.reduceBEq, Nat.reduceAdd, Nat.reduceLeDiff, reduceIte, reduceCtorEq, tysA, tyA, Ty.enc, Ty.encs])
      | (refine XApp.own ho rfl (by simp) (by simp; omega) (by decide) (fun v2 σ2 ho2 hbk => ?_); (try simp -implicitDefEqProofs only [lt_f hql, h0, ho.lpOf, ho.cells, ho.cell, rs_linear_collect, Bool.not_eq_true', Bool.not_eq_false', go_sem, eq_self, Nat.reduceEqDiff, Nat.reduceBEq, Nat.reduceAdd, Nat.reduceLeDiff, reduceIte, reduceCtorEq, tysA, tyA, Ty.enc, Ty.encs]))
      | ((simp -implicitDefEqProofs only [ho2.cells, ho2.cell, go_sem, eq_self, Nat.reduceEqDiff, Nat.reduceBEq, Nat.reduceAdd, Nat.reduceLeDiff, reduceIte, reduceCtorEq, tysA, tyA, Ty.enc, Ty.encs]); (try simp -implicitDefEqProofs only [lt_f hql, h0, ho.lpOf, ho.cells, ho.cell, rs_linear_collect, Bool.not_eq_true', Bool.not_eq_false', go_sem, eq_self, Nat.reduceEqDiff, Nat.reduceBEq, Nat.reduceAdd, Nat.reduceLeDiff, reduceIte, reduceCtorEq, tysA, tyA, Ty.enc, Ty.encs]))
      | (refine xo_gs rfl (fun h => ?_) (fun h => ?_) <;> first | (cases h; done) | simp -implicitDefEqProofs only [lt_f hql, h0, ho.lpOf, ho.cells, ho.cell, rs_linear_collect, Bool.not_eq_true', Bool.not_eq_false', go_sem, eq_self, Nat.reduceEqDiff, Nat.reduceBEq, Nat.reduceAdd, Nat.reduceLeDiff, reduceIte, reduceCtorEq, tysA, tyA, Ty.enc, Ty.encs])
      | (refine ⟨fun h => ?_, fun h => ?_⟩ <;> first | (cases h; done) | (simp -implicitDefEqProofs only [h]; done) | (try simp -implicitDefEqProofs only [h]))
      | fail))
          have h0' : acc ≠ 0 := by simpa using h0
          refine ih (q, v2, σ2) ⟨by simp only; omega, out ++ [(x.1, acc)], by simpa [tmR] using ho2, by simp only [List.length_append, List.length_singleton]; omega, ?_, ?_, ?_, fun u => ?_⟩ (by simp only; omega)
          · refine List.pairwise_append.2 ⟨hasc, .cons (by simp) .nil, fun a ha b hb => ?_⟩
            simp only [List.mem_singleton] at hb; subst hb
            exact hlt a ha x (by rw [drop_at hx]; exact List.mem_cons_self ..)
          · intro a ha
            rcases List.mem_append.1 ha with ha | ha
            · exact hnz a ha
            · simp only [List.mem_singleton] at ha; subst ha; exact h0'
          · intro a ha b hb
            rcases List.mem_append.1 ha with ha | ha
            · exact hlt a ha b (drop_sub hkq hb)
            · simp only [List.mem_singleton] at ha; subst ha; exact hall b hb
          · have := hsum u
            rw [hcs u] at this
            rw [csum_append]
            simp only [csum]
            omega
    · have hkl' : k = l.length := by omega
      have hcan : out = canTs ts := can_eq ⟨hasc, hnz, fun u => by
        have := hsum u
        rw [hkl', List.drop_length] at this
        rw [← csum_perm hp, ← this]; simp [csum]⟩
      cases hv : validP ⟨n, out⟩ with
      | true =>
        (repeat' (first
      | refine Run.seq ?_
      | refine Run.skip ?_
      | refine Run.block ?_
      | refine Run.blk ?_
      | refine Run.scope ?_
      | refine Run.scp ?_
      | (refine Run.exit rfl ?_)
      | (refine Run.reg mixed ?_; simp -implicitDefEqProofs only [lt_f hkl, hv, ho.lpOf, ho.cells, ho.cell, ho.plain, ho.noLp, rs_linear_collect, Bool.not_eq_true', Bool.not_eq_false', go_sem, eq_self, Nat.reduceEqDiff, Nat.reduceBEq, Nat.reduceAdd, Nat.reduceLeDiff, reduceIte, reduceCtorEq, tysA, tyA, Ty.enc, Ty.encs])
      | (refine Run.condM ?_; simp -implicitDefEqProofs only [lt_f hkl, hv, ho.lpOf, ho.cells, ho.cell, ho.plain, ho.noLp, rs_linear_collect, Bool.not_eq_true', Bool.not_eq_false', go_sem, eq_self, Nat.reduceEqDiff, Nat.reduceBEq, Nat.reduceAdd, Nat.reduceLeDiff, reduceIte, reduceCtorEq, tysA, tyA, Ty.enc, Ty.encs])
      | (refine Run.retP g_linear_collect (σ2 := σ) (Heap.le_trans (le_setBlk hj) ho.le) ?_; (try simp -implicitDefEqProofs only [lt_f hkl, hv, ho.lpOf, ho.cells, ho.cell, ho.plain, ho.noLp, rs_linear_collect, Bool.not_eq_true', Bool.not_eq_false', go_sem, eq_self, Nat.reduceEqDiff, Nat.reduceBEq, Nat.reduceAdd, Nat.reduceLeDiff, reduceIte, reduceCtorEq, tysA, tyA, Ty.enc, Ty.encs]))
      | (refine XCall.det (Valid_plain ho.plain) ?_; simp -implicitDefEqProofs only [lt_f hkl, hv, ho.lpOf, ho.cells, ho.cell, ho.plain, ho.noLp, rs_linear_collect, Bool.not_eq_true', Bool.not_eq_false', go_sem, eq_self, Nat.reduceEqDiff, Nat.reduceBEq, Nat.reduceAdd, Nat.reduceLeDiff, reduceIte, reduceCtorEq, tysA, tyA, Ty.enc, Ty.encs])
      | (refine xo_gs rfl (fun h => ?_) (fun h => ?_) <;> first | (cases h; done) | simp -implicitDefEqProofs only [lt_f hkl, hv, ho.lpOf, ho.cells, ho.cell, ho.plain, ho.noLp, rs_linear_collect, Bool.not_eq_true', Bool.not_eq_false', go_sem, eq_self, Nat.reduceEqDiff, Nat.reduceBEq, Nat.reduceAdd, Nat.reduceLeDiff, reduceIte, reduceCtorEq, tysA, tyA, Ty.enc, Ty.encs])
      | (refine ⟨fun h => ?_, fun h => ?_⟩ <;> first | (cases h; done) | (simp -implicitDefEqProofs only [h]; done) | (try simp -implicitDefEqProofs only [h]))
      | fail))
        rw [← hcan]
        simp [resA, chk, hv, linA]
      | false =>
        (repeat' (first
      | refine Run.seq ?_
      | refine Run.skip ?_
      | refine Run.block ?_
      | refine Run.blk ?_
      | refine Run.scope ?_
      | refine Run.scp ?_
      | (refine Run.exit rfl ?_)
      | (refine Run.reg mixed ?_; simp -implicitDefEqProofs only [lt_f hkl, hv, ho.lpOf, ho.cells, ho.cell, ho.plain, ho.noLp, rs_linear_collect, Bool.not_eq_true', Bool.not_eq_false', go_sem, eq_self, Nat.reduceEqDiff, Nat.reduceBEq, Nat.reduceAdd, Nat.reduceLeDiff, reduceIte, reduceCtorEq, tysA, tyA, Ty.enc, Ty.encs])
      | (refine Run.condM ?_; simp -implicitDefEqProofs only [lt_f hkl, hv, ho.lpOf, ho.cells, ho.cell, ho.plain, ho.noLp, rs_linear_collect, Bool.not_eq_true', Bool.not_eq_false', go_sem, eq_self, Nat.reduceEqDiff, Nat.reduceBEq, Nat.reduceAdd, Nat.reduceLeDiff, reduceIte, reduceCtorEq, tysA, tyA, Ty.enc, Ty.encs])
      | (refine Run.retP g_linear_collect (σ2 := σ) (Heap.le_trans (le_setBlk hj) ho.le) ?_; (try simp -implicitDefEqProofs only [lt_f hkl, hv, ho.lpOf, ho.cells, ho.cell, ho.plain, ho.noLp, rs_linear_collect, Bool.not_eq_true', Bool.not_eq_false', go_sem, eq_self, Nat.reduceEqDiff, Nat.reduceBEq, Nat.reduceAdd, Nat.reduceLeDiff, reduceIte, reduceCtorEq, tysA, tyA, Ty.enc, Ty.encs]))
      | (refine XCall.det (Valid_plain ho.plain) ?_; simp -implicitDefEqProofs only [lt_f hkl, hv, ho.lpOf, ho.cells, ho.cell, ho.plain, ho.noLp, rs_linear_collect, Bool.not_eq_true', Bool.not_eq_false', go_sem, eq_self, Nat.reduceEqDiff, Nat.reduceBEq, Nat.reduceAdd, Nat.reduceLeDiff, reduceIte, reduceCtorEq, tysA, tyA, Ty.enc, Ty.encs])
      | (refine xo_gs rfl (fun h => ?_) (fun h => ?_) <;> first | (cases h; done) | simp -implicitDefEqProofs only [lt_f hkl, hv, ho.lpOf, ho.cells, ho.cell, ho.plain, ho.noLp, rs_linear_collect, Bool.not_eq_true', Bool.not_eq_false', go_sem, eq_self, Nat.reduceEqDiff, Nat.reduceBEq, Nat.reduceAdd, Nat.reduceLeDiff, reduceIte, reduceCtorEq, tysA, tyA, Ty.enc, Ty.encs])
      | (refine ⟨fun h => ?_, fun h => ?_⟩ <;> first | (cases h; done) | (simp -implicitDefEqProofs only [h]; done) | (try simp -implicitDefEqProofs only [h]))
      | fail))
        rw [← hcan]
        simp [resA, chk, hv, linA]
end Go.Ab
