/- The reference's sum of ascending terms. Conditions: none. -/
import Derived.Test.YtdbpmhfepfpldaaDoorXGc
import Derived.Test.YtdbpmhfepfpldaaDoorXPl
set_option linter.unusedSimpArgs false
set_option linter.unusedVariables false
namespace Go.Ab
open Go.Proofs

theorem XEx.cpy {K : Kont} {F : Fm} {L : Lm} {σ : Heap} {d : Option Nat} {s i o n e1 o2 n2 e2 : Nat} {cs cs' : List AV} (hb : σ.blk i = some cs) (h1 : (o + n) * s ≤ cs.length) (h2 : (o2 + n2) * s ≤ cs.length)
    (he : wr cs (o * s) ((cs.drop (o2 * s)).take (min n2 n * s)) = cs') (h : K (putO d (.d (.int .i64 ((min n2 n : Nat) : Int))) F) L (σ.setBlk i cs')) : XEx (.cpy s) [.mv i o n s e1, .mv i o2 n2 s e2] d K F L σ := by
  subst he
  exact ⟨rfl, ⟨rfl, rfl, rfl⟩, cs, hb, h1, h2, h⟩
theorem XEx.appv {K : Kont} {F : Fm} {L : Lm} {σ : Heap} {d : Option Nat} {e s i n o2 n2 e2 : Nat} {cs cs' : List AV} (hb : σ.blk i = some cs) (h1 : (n + n2) * s ≤ cs.length) (h2 : (o2 + n2) * s ≤ cs.length)
    (he : cs.take (n * s) ++ (cs.drop (o2 * s)).take (n2 * s) = cs') (h : K (putO d (.ms i (n + n2) s e) F) L (σ.setBlk i cs')) : XEx (.appv e s) [.ms i n s e, .mv i o2 n2 s e2] d K F L σ := by
  subst he
  exact ⟨rfl, ⟨rfl, rfl, rfl, rfl⟩, cs, hb, h1, h2, h⟩

theorem prs_take : ∀ (l : List (Int × Int)) (k : Nat), (prs l).take (k * 2) = prs (l.take k)
  | [], k => by simp [prs]
  | x :: l, 0 => by simp [prs]
  | x :: l, k + 1 => by
    rw [show (k + 1) * 2 = k * 2 + 1 + 1 by omega]
    simp only [prs, List.take_succ_cons, prs_take l k]
theorem prs_drop : ∀ (l : List (Int × Int)) (k : Nat), (prs l).drop (k * 2) = prs (l.drop k)
  | [], k => by simp [prs]
  | x :: l, 0 => by simp [prs]
  | x :: l, k + 1 => by
    rw [show (k + 1) * 2 = k * 2 + 1 + 1 by omega]
    simp only [prs, List.drop_succ_cons, prs_drop l k]
theorem prs_wr2 : ∀ (l : List (Int × Int)) (q : Nat) (v c : Int), q < l.length → wr (prs l) (q * 2) [.d (.int .i64 v), .d (.int .i64 c)] = prs (l.set q (v, c)) := by
  intro l q v c hq
  have e : (prs l).drop (q * 2 + 2) = prs (l.drop (q + 1)) := by rw [show q * 2 + 2 = (q + 1) * 2 by omega, prs_drop]
  unfold wr
  rw [prs_take, show q * 2 + [AV.d (.int .i64 v), AV.d (.int .i64 c)].length = q * 2 + 2 from rfl, e, List.set_eq_take_append_cons_drop, if_pos hq, prs_append]
  simp [prs]

theorem addT_skip {u c : Int} : ∀ (l m : Tms), (∀ x ∈ l, x.1 < u) → addT (l ++ m) u c = l ++ addT m u c
  | [], m, _ => rfl
  | x :: l, m, h => by
    rw [List.cons_append, addT, if_pos (h x (List.mem_cons_self ..)), addT_skip l m (fun y hy => h y (List.mem_cons_of_mem _ hy))]; rfl
theorem addT_at {u c : Int} {ts : Tms} {i : Nat} (h : ∀ x ∈ ts.take i, x.1 < u) : addT ts u c = ts.take i ++ addT (ts.drop i) u c := by
  rw [← addT_skip _ _ h, List.take_append_drop]

theorem MR.len {σ0 σ : Heap} {ts : Tms} {v : AV} (h : MR σ0 ts v σ) : lenA v = some (.d (.int .i64 ts.length)) := by
  rcases h with ⟨rfl, rfl, rfl⟩ | ⟨j, hj, rfl, rfl⟩ <;> rfl

theorem MR.noLp {σ0 σ : Heap} {ts : Tms} {v : AV} (h : MR σ0 ts v σ) : v.noLp = true ∧ v.isCell = true ∧ v.cells = [v] ∧ ∀ k, v.lpOf k = false := by
  rcases h with ⟨rfl, rfl, rfl⟩ | ⟨j, hj, rfl, rfl⟩ <;> exact ⟨rfl, rfl, rfl, fun _ => rfl⟩

theorem beqF {a b : Int} (h : a ≠ b) : (a == b) = false := by simpa using h
theorem beqT {a b : Int} (h : a = b) : (a == b) = true := by simpa using h

theorem sum_ok {σ0 σ : Heap} {ts : Tms} {v : AV} (u c : Int) (hm : MR σ0 ts v σ) (hl : ts.length ≤ 100000) (hw : ∀ x ∈ ts, IntKind.i64.wrap (x.2 + c) = x.2 + c) :
    ACalls Tryd.prog 63 [v, .d (.int .i64 u), .d (.int .i64 c)] σ (MR σ0 (addT ts u c)) := by
  refine i_r19_sum (by simp) ?_
  rw [argF_3]
  have hlen := hm.len
  (repeat' (first
      | refine Run.seq ?_
      | refine Run.skip ?_
      | refine Run.block ?_
      | refine Run.blk ?_
      | refine Run.scope ?_
      | refine Run.scp ?_
      | (refine Run.exit rfl ?_)
      | (refine Run.reg mixed ?_; simp -implicitDefEqProofs only [hlen, rs_r19_sum, Bool.not_eq_true', Bool.not_eq_false', go_sem, eq_self, Nat.reduceEqDiff, Nat.reduceBEq, Nat.reduceAdd, Nat.reduceLeDiff, reduceIte, reduceCtorEq, tysA, tyA, Ty.enc, Ty.encs])
      | (refine Run.condM ?_; simp -implicitDefEqProofs only [hlen, rs_r19_sum, Bool.not_eq_true', Bool.not_eq_false', go_sem, eq_self, Nat.reduceEqDiff, Nat.reduceBEq, Nat.reduceAdd, Nat.reduceLeDiff, reduceIte, reduceCtorEq, tysA, tyA, Ty.enc, Ty.encs])
      | (refine xo_gs rfl (fun h => ?_) (fun h => ?_) <;> first | (cases h; done) | simp -implicitDefEqProofs only [hlen, rs_r19_sum, Bool.not_eq_true', Bool.not_eq_false', go_sem, eq_self, Nat.reduceEqDiff, Nat.reduceBEq, Nat.reduceAdd, Nat.reduceLeDiff, reduceIte, reduceCtorEq, tysA, tyA, Ty.enc, Ty.encs])
      | (refine ⟨fun h => ?_, fun h => ?_⟩ <;> first | (cases h; done) | (simp -implicitDefEqProofs only [h]; done) | (try simp -implicitDefEqProofs only [h]))
      | fail))
  refine Run.loopA ?_
  refine Run.loopI ((fun (a0 : AV) (a1 : AV) (a2 : AV) => fun (i : Nat) => put 0 a0 (put 1 a1 (put 2 a2 (put 7 (.d (.int .i64 i)) U)))) _ _ _) (fun _ => E) (fun _ => σ) (fun i => i ≤ ts.length ∧ ∀ x ∈ ts.take i, x.1 < u) (fun i => ts.length - i) ?_ 0 ⟨by simp, by simp⟩
  rintro i ⟨hi, hpre⟩ ih
  have hw1 := wrap_succ (show i + 1 ≤ 9000000000000000000 by omega)
  have hadd := addT_at (c := c) hpre
  have hn1 : natA (.d (.int .i64 ((i + 1 : Nat) : Int))) = some (i + 1) := by simp only [natA, Int.toNat_natCast, if_pos (Int.natCast_nonneg _)]
  have hn0 : natA (.d (.int .i64 (i : Int))) = some i := by simp only [natA, Int.toNat_natCast, if_pos (Int.natCast_nonneg _)]
  -- the insertion
  have hins : ∀ {j : Nat} (l0 : Tms), l0 = ts ++ [(0, 0)] → wr (prs l0) ((i + 1) * 2) (((prs l0).drop (i * 2)).take (min (ts.length + 1 - i) (ts.length + 1 - (i + 1)) * 2)) = prs (l0.take (i + 1) ++ ts.drop i) := by
    intro j l0 h0
    have hll : l0.length = ts.length + 1 := by rw [h0]; simp
    rw [show min (ts.length + 1 - i) (ts.length + 1 - (i + 1)) = ts.length - i by omega, prs_drop, prs_take]
    have hd : (l0.drop i).take (ts.length - i) = ts.drop i := by
      rw [h0, List.drop_append_of_le_length hi, List.take_append_of_le_length (by simp), List.take_of_length_le (by simp)]
    rw [hd]
    unfold wr
    rw [prs_len, List.length_drop, prs_take, show (i + 1) * 2 + (ts.length - i) * 2 = (ts.length + 1) * 2 by omega, prs_drop, List.drop_of_length_le (Nat.le_of_eq hll), prs_append]
    simp [prs]
  have hset : (((ts ++ [(0, 0)]).take (i + 1) ++ ts.drop i).set i (u, c)) = ts.take i ++ (u, c) :: ts.drop i := by
    have h1 : (((ts ++ [((0 : Int), (0 : Int))]).take (i + 1)).length) = i + 1 := by simp; omega
    rw [List.set_append_left _ _ (by omega)]
    have h2 : ((ts ++ [((0 : Int), (0 : Int))]).take (i + 1)).set i (u, c) = ts.take i ++ [(u, c)] := by
      rw [List.set_eq_take_append_cons_drop, if_pos (by omega), List.take_take, Nat.min_eq_left (by omega), List.drop_of_length_le (by omega), List.take_append_of_le_length hi]
    rw [h2]; simp
  have hlt1 : i < ((ts ++ [((0 : Int), (0 : Int))]).take (i + 1) ++ ts.drop i).length := by simp; omega
  by_cases hlt : i < ts.length
  · obtain ⟨x, hx⟩ := ex_at hlt
    rcases hm with ⟨rfl, _, _⟩ | ⟨j, hj, rfl, rfl⟩
    · simp at hlt
    obtain ⟨g1, g2⟩ := prs_get _ _ _ hx
    have hix : ((i : Int) < (ts.length : Int)) = True := by simp; omega
    rw [drop_at hx, addT] at hadd
    by_cases hxu : x.1 < u
    · (repeat' (first
      | refine Run.seq ?_
      | refine Run.skip ?_
      | refine Run.block ?_
      | refine Run.blk ?_
      | refine Run.scope ?_
      | refine Run.scp ?_
      | (refine Run.exit rfl ?_)
      | (refine Run.reg mixed ?_; simp -implicitDefEqProofs only [lt_t hlt, hix, g1, decide_eq_true hxu, hw1, rs_r19_sum, Bool.not_eq_true', Bool.not_eq_false', go_sem, eq_self, Nat.reduceEqDiff, Nat.reduceBEq, Nat.reduceAdd, Nat.reduceLeDiff, reduceIte, reduceCtorEq, tysA, tyA, Ty.enc, Ty.encs])
      | (refine Run.condM ?_; simp -implicitDefEqProofs only [lt_t hlt, hix, g1, decide_eq_true hxu, hw1, rs_r19_sum, Bool.not_eq_true', Bool.not_eq_false', go_sem, eq_self, Nat.reduceEqDiff, Nat.reduceBEq, Nat.reduceAdd, Nat.reduceLeDiff, reduceIte, reduceCtorEq, tysA, tyA, Ty.enc, Ty.encs])
      | (refine xo_gs rfl (fun h => ?_) (fun h => ?_) <;> first | (cases h; done) | simp -implicitDefEqProofs only [lt_t hlt, hix, g1, decide_eq_true hxu, hw1, rs_r19_sum, Bool.not_eq_true', Bool.not_eq_false', go_sem, eq_self, Nat.reduceEqDiff, Nat.reduceBEq, Nat.reduceAdd, Nat.reduceLeDiff, reduceIte, reduceCtorEq, tysA, tyA, Ty.enc, Ty.encs])
      | (refine ⟨fun h => ?_, fun h => ?_⟩ <;> first | (cases h; done) | (simp -implicitDefEqProofs only [h]; done) | (try simp -implicitDefEqProofs only [h]))
      | fail))
      refine ih (i + 1) ⟨by omega, fun y hy => ?_⟩ (by omega)
      rw [List.take_add_one, hx] at hy
      rcases List.mem_append.1 hy with hy | hy
      · exact hpre y hy
      · simp only [Option.toList_some, List.mem_singleton] at hy; subst hy; exact hxu
    rw [if_neg hxu] at hadd
    by_cases heq : x.1 = u
    · rw [if_pos heq] at hadd
      have hwx := hw x (List.mem_of_getElem? hx)
      have hpw := prs_wr _ i _ (x.2 + c) hx
      simp only [wr, List.length_cons, List.length_nil, Nat.zero_add] at hpw
      have hle : (i * 2 + 1 + (0 + 1) ≤ (prs ts).length) = True := by rw [prs_len]; simp; omega
      have hgs : (ts.set i (x.1, x.2 + c))[i]? = some (x.1, x.2 + c) := by simp [hlt]
      obtain ⟨_, k2⟩ := prs_get _ _ _ hgs
      have hin : (i ≤ ts.length) = True := by simp; omega
      have hin1 : (i + 1 ≤ ts.length) = True := by simp; omega
      cases h0 : (x.2 + c == 0) with
      | false =>
        (repeat' (first
      | refine Run.seq ?_
      | refine Run.skip ?_
      | refine Run.block ?_
      | refine Run.blk ?_
      | refine Run.scope ?_
      | refine Run.scp ?_
      | (refine Run.exit rfl ?_)
      | (refine Run.reg mixed ?_; simp -implicitDefEqProofs only [lt_t hlt, hix, g1, g2, decide_eq_false hxu, beqT heq, hwx, hpw, hle, k2, h0, Nat.zero_add, rs_r19_sum, Bool.not_eq_true', Bool.not_eq_false', go_sem, eq_self, Nat.reduceEqDiff, Nat.reduceBEq, Nat.reduceAdd, Nat.reduceLeDiff, reduceIte, reduceCtorEq, tysA, tyA, Ty.enc, Ty.encs])
      | (refine Run.condM ?_; simp -implicitDefEqProofs only [lt_t hlt, hix, g1, g2, decide_eq_false hxu, beqT heq, hwx, hpw, hle, k2, h0, Nat.zero_add, rs_r19_sum, Bool.not_eq_true', Bool.not_eq_false', go_sem, eq_self, Nat.reduceEqDiff, Nat.reduceBEq, Nat.reduceAdd, Nat.reduceLeDiff, reduceIte, reduceCtorEq, tysA, tyA, Ty.enc, Ty.encs])
      | (refine Run.retR g_r19_sum (Heap.le_refl _) ?_; simp -implicitDefEqProofs only [rs_r19_sum, lt_t hlt, hix, g1, g2, decide_eq_false hxu, beqT heq, hwx, hpw, hle, k2, h0, Nat.zero_add, go_sem, eq_self, Nat.reduceEqDiff, Nat.reduceBEq, Nat.reduceAdd, Nat.reduceLeDiff, reduceIte, reduceCtorEq, tysA, tyA, Ty.enc, Ty.encs])
      | (refine xo_gs rfl (fun h => ?_) (fun h => ?_) <;> first | (cases h; done) | simp -implicitDefEqProofs only [lt_t hlt, hix, g1, g2, decide_eq_false hxu, beqT heq, hwx, hpw, hle, k2, h0, Nat.zero_add, rs_r19_sum, Bool.not_eq_true', Bool.not_eq_false', go_sem, eq_self, Nat.reduceEqDiff, Nat.reduceBEq, Nat.reduceAdd, Nat.reduceLeDiff, reduceIte, reduceCtorEq, tysA, tyA, Ty.enc, Ty.encs])
      | (refine ⟨fun h => ?_, fun h => ?_⟩ <;> first | (cases h; done) | (simp -implicitDefEqProofs only [h]; done) | (try simp -implicitDefEqProofs only [h]))
      | fail))
        have h0' : x.2 + c ≠ 0 := by simpa using h0
        rw [if_neg h0'] at hadd
        refine .inr ⟨j, hj, ?_, ?_⟩
        · rw [hadd]; simp; omega
        · rw [hadd, List.set_eq_take_append_cons_drop, if_pos hlt]
      | true =>
        have a1 : (i + (ts.length - (i + 1))) * 2 ≤ (prs (ts.set i (x.1, x.2 + c))).length := by rw [prs_len, List.length_set]; omega
        have a2 : (i + 1 + (ts.length - (i + 1))) * 2 ≤ (prs (ts.set i (x.1, x.2 + c))).length := by rw [prs_len, List.length_set]; omega
        have a3 : (prs (ts.set i (x.1, x.2 + c))).take (i * 2) ++ ((prs (ts.set i (x.1, x.2 + c))).drop ((i + 1) * 2)).take ((ts.length - (i + 1)) * 2) = prs (ts.take i ++ ts.drop (i + 1)) := by
          rw [prs_take, prs_drop, prs_take, ← prs_append, List.take_set_of_le (Nat.le_refl _), List.drop_set_of_lt (Nat.lt_succ_self i), List.take_of_length_le (Nat.le_of_eq (List.length_drop ..))]
        (repeat' (first
      | refine Run.seq ?_
      | refine Run.skip ?_
      | refine Run.block ?_
      | refine Run.blk ?_
      | refine Run.scope ?_
      | refine Run.scp ?_
      | (refine Run.exit rfl ?_)
      | (refine Run.reg mixed ?_; simp -implicitDefEqProofs only [lt_t hlt, hix, g1, g2, decide_eq_false hxu, beqT heq, hwx, hpw, hle, k2, h0, Nat.zero_add, hw1, hn0, hn1, hin, hin1, rs_r19_sum, Bool.not_eq_true', Bool.not_eq_false', go_sem, eq_self, Nat.reduceEqDiff, Nat.reduceBEq, Nat.reduceAdd, Nat.reduceLeDiff, reduceIte, reduceCtorEq, tysA, tyA, Ty.enc, Ty.encs])
      | (refine Run.condM ?_; simp -implicitDefEqProofs only [lt_t hlt, hix, g1, g2, decide_eq_false hxu, beqT heq, hwx, hpw, hle, k2, h0, Nat.zero_add, hw1, hn0, hn1, hin, hin1, rs_r19_sum, Bool.not_eq_true', Bool.not_eq_false', go_sem, eq_self, Nat.reduceEqDiff, Nat.reduceBEq, Nat.reduceAdd, Nat.reduceLeDiff, reduceIte, reduceCtorEq, tysA, tyA, Ty.enc, Ty.encs])
      | (refine XEx.appv (by simp only [setBlk_get, if_true]) a1 a2 a3 ?_; (try simp -implicitDefEqProofs only [lt_t hlt, hix, g1, g2, decide_eq_false hxu, beqT heq, hwx, hpw, hle, k2, h0, Nat.zero_add, hw1, hn0, hn1, hin, hin1, rs_r19_sum, Bool.not_eq_true', Bool.not_eq_false', go_sem, eq_self, Nat.reduceEqDiff, Nat.reduceBEq, Nat.reduceAdd, Nat.reduceLeDiff, reduceIte, reduceCtorEq, tysA, tyA, Ty.enc, Ty.encs]))
      | (refine Run.retR g_r19_sum (Heap.le_refl _) ?_; simp -implicitDefEqProofs only [rs_r19_sum, lt_t hlt, hix, g1, g2, decide_eq_false hxu, beqT heq, hwx, hpw, hle, k2, h0, Nat.zero_add, hw1, hn0, hn1, hin, hin1, go_sem, eq_self, Nat.reduceEqDiff, Nat.reduceBEq, Nat.reduceAdd, Nat.reduceLeDiff, reduceIte, reduceCtorEq, tysA, tyA, Ty.enc, Ty.encs])
      | (refine xo_gs rfl (fun h => ?_) (fun h => ?_) <;> first | (cases h; done) | simp -implicitDefEqProofs only [lt_t hlt, hix, g1, g2, decide_eq_false hxu, beqT heq, hwx, hpw, hle, k2, h0, Nat.zero_add, hw1, hn0, hn1, hin, hin1, rs_r19_sum, Bool.not_eq_true', Bool.not_eq_false', go_sem, eq_self, Nat.reduceEqDiff, Nat.reduceBEq, Nat.reduceAdd, Nat.reduceLeDiff, reduceIte, reduceCtorEq, tysA, tyA, Ty.enc, Ty.encs])
      | (refine ⟨fun h => ?_, fun h => ?_⟩ <;> first | (cases h; done) | (simp -implicitDefEqProofs only [h]; done) | (try simp -implicitDefEqProofs only [h]))
      | fail))
        have h0' : x.2 + c = 0 := by simpa using h0
        rw [if_pos h0'] at hadd
        refine .inr ⟨j, hj, ?_, ?_⟩
        · rw [hadd]; simp; omega
        · rw [hadd]
    · rw [if_neg heq] at hadd
      cases hc0 : (c == 0) with
      | true =>
        (repeat' (first
      | refine Run.seq ?_
      | refine Run.skip ?_
      | refine Run.block ?_
      | refine Run.blk ?_
      | refine Run.scope ?_
      | refine Run.scp ?_
      | (refine Run.exit rfl ?_)
      | (refine Run.reg mixed ?_; simp -implicitDefEqProofs only [lt_t hlt, hix, g1, g2, decide_eq_false hxu, beqF heq, hc0, rs_r19_sum, Bool.not_eq_true', Bool.not_eq_false', go_sem, eq_self, Nat.reduceEqDiff, Nat.reduceBEq, Nat.reduceAdd, Nat.reduceLeDiff, reduceIte, reduceCtorEq, tysA, tyA, Ty.enc, Ty.encs])
      | (refine Run.condM ?_; simp -implicitDefEqProofs only [lt_t hlt, hix, g1, g2, decide_eq_false hxu, beqF heq, hc0, rs_r19_sum, Bool.not_eq_true', Bool.not_eq_false', go_sem, eq_self, Nat.reduceEqDiff, Nat.reduceBEq, Nat.reduceAdd, Nat.reduceLeDiff, reduceIte, reduceCtorEq, tysA, tyA, Ty.enc, Ty.encs])
      | (refine Run.retR g_r19_sum (Heap.le_refl _) ?_; simp -implicitDefEqProofs only [rs_r19_sum, lt_t hlt, hix, g1, g2, decide_eq_false hxu, beqF heq, hc0, go_sem, eq_self, Nat.reduceEqDiff, Nat.reduceBEq, Nat.reduceAdd, Nat.reduceLeDiff, reduceIte, reduceCtorEq, tysA, tyA, Ty.enc, Ty.encs])
      | (refine xo_gs rfl (fun h => ?_) (fun h => ?_) <;> first | (cases h; done) | simp -implicitDefEqProofs only [lt_t hlt, hix, g1, g2, decide_eq_false hxu, beqF heq, hc0, rs_r19_sum, Bool.not_eq_true', Bool.not_eq_false', go_sem, eq_self, Nat.reduceEqDiff, Nat.reduceBEq, Nat.reduceAdd, Nat.reduceLeDiff, reduceIte, reduceCtorEq, tysA, tyA, Ty.enc, Ty.encs])
      | (refine ⟨fun h => ?_, fun h => ?_⟩ <;> first | (cases h; done) | (simp -implicitDefEqProofs only [h]; done) | (try simp -implicitDefEqProofs only [h]))
      | fail))
        have hc0' : c = 0 := by simpa using hc0
        rw [if_pos hc0', ← drop_at hx, List.take_append_drop] at hadd
        rw [hadd]; exact .inr ⟨j, hj, rfl, rfl⟩
      | false =>
        have hc0' : c ≠ 0 := by simpa using hc0
        rw [if_neg hc0', ← drop_at hx] at hadd
        (repeat' (first
      | refine Run.seq ?_
      | refine Run.skip ?_
      | refine Run.block ?_
      | refine Run.blk ?_
      | refine Run.scope ?_
      | refine Run.scp ?_
      | (refine Run.exit rfl ?_)
      | (refine Run.reg mixed ?_; simp -implicitDefEqProofs only [lt_t hlt, hix, g1, g2, decide_eq_false hxu, beqF heq, hc0, rs_r19_sum, Bool.not_eq_true', Bool.not_eq_false', go_sem, eq_self, Nat.reduceEqDiff, Nat.reduceBEq, Nat.reduceAdd, Nat.reduceLeDiff, reduceIte, reduceCtorEq, tysA, tyA, Ty.enc, Ty.encs])
      | (refine Run.condM ?_; simp -implicitDefEqProofs only [lt_t hlt, hix, g1, g2, decide_eq_false hxu, beqF heq, hc0, rs_r19_sum, Bool.not_eq_true', Bool.not_eq_false', go_sem, eq_self, Nat.reduceEqDiff, Nat.reduceBEq, Nat.reduceAdd, Nat.reduceLeDiff, reduceIte, reduceCtorEq, tysA, tyA, Ty.enc, Ty.encs])
      | (refine xo_gs rfl (fun h => ?_) (fun h => ?_) <;> first | (cases h; done) | simp -implicitDefEqProofs only [lt_t hlt, hix, g1, g2, decide_eq_false hxu, beqF heq, hc0, rs_r19_sum, Bool.not_eq_true', Bool.not_eq_false', go_sem, eq_self, Nat.reduceEqDiff, Nat.reduceBEq, Nat.reduceAdd, Nat.reduceLeDiff, reduceIte, reduceCtorEq, tysA, tyA, Ty.enc, Ty.encs])
      | (refine ⟨fun h => ?_, fun h => ?_⟩ <;> first | (cases h; done) | (simp -implicitDefEqProofs only [h]; done) | (try simp -implicitDefEqProofs only [h]))
      | fail))
        refine XAppM.mr (us := [(0, 0)]) (.inr ⟨j, hj, rfl, rfl⟩) rfl (by simp; omega) (by omega) (fun v2 σ2 hm2 => ?_)
        rcases hm2 with ⟨he, _, _⟩ | ⟨j2, hj2, rfl, rfl⟩
        · simp at he
        have hln : (ts ++ [((0 : Int), (0 : Int))]).length = ts.length + 1 := by simp
        have hin : (i ≤ ts.length + 1) = True := by simp; omega
        have hin1 : (i + 1 ≤ ts.length + 1) = True := by simp; omega
        have hix2 : ((i : Int) < ((ts.length + 1 : Nat) : Int)) = True := by simp only [eq_iff_iff, iff_true]; omega
        have hpw2 := prs_wr2 _ i u c hlt1
        simp only [wr, List.length_cons, List.length_nil, Nat.zero_add] at hpw2
        have hle2 : (i * 2 + (0 + 1 + 1) ≤ (prs ((ts ++ [((0 : Int), (0 : Int))]).take (i + 1) ++ ts.drop i)).length) = True := by rw [prs_len]; simp; omega
        simp -implicitDefEqProofs only [hln, putO_some, setBlk_get, go_sem, eq_self, Nat.reduceEqDiff, Nat.reduceBEq, Nat.reduceAdd, Nat.reduceLeDiff, reduceIte, reduceCtorEq, tysA, tyA, Ty.enc, Ty.encs]
        (repeat' (first
      | refine Run.seq ?_
      | refine Run.skip ?_
      | refine Run.block ?_
      | refine Run.blk ?_
      | refine Run.scope ?_
      | refine Run.scp ?_
      | (refine Run.exit rfl ?_)
      | (refine Run.reg mixed ?_; simp -implicitDefEqProofs only [hln, hw1, hn0, hn1, hin, hin1, hix2, hle2, hpw2, Nat.zero_add, rs_r19_sum, Bool.not_eq_true', Bool.not_eq_false', go_sem, eq_self, Nat.reduceEqDiff, Nat.reduceBEq, Nat.reduceAdd, Nat.reduceLeDiff, reduceIte, reduceCtorEq, tysA, tyA, Ty.enc, Ty.encs])
      | (refine Run.condM ?_; simp -implicitDefEqProofs only [hln, hw1, hn0, hn1, hin, hin1, hix2, hle2, hpw2, Nat.zero_add, rs_r19_sum, Bool.not_eq_true', Bool.not_eq_false', go_sem, eq_self, Nat.reduceEqDiff, Nat.reduceBEq, Nat.reduceAdd, Nat.reduceLeDiff, reduceIte, reduceCtorEq, tysA, tyA, Ty.enc, Ty.encs])
      | (refine XEx.cpy (cs := prs (ts ++ [(0, 0)])) (cs' := prs ((ts ++ [(0, 0)]).take (i + 1) ++ ts.drop i)) (by simp only [setBlk_get, if_true]) (by rw [prs_len, hln]; omega) (by rw [prs_len, hln]; omega) (hins (j := 0) _ rfl) ?_; (try simp -implicitDefEqProofs only [hln, hw1, hn0, hn1, hin, hin1, hix2, hle2, hpw2, Nat.zero_add, rs_r19_sum, Bool.not_eq_true', Bool.not_eq_false', go_sem, eq_self, Nat.reduceEqDiff, Nat.reduceBEq, Nat.reduceAdd, Nat.reduceLeDiff, reduceIte, reduceCtorEq, tysA, tyA, Ty.enc, Ty.encs]))
      | (refine Run.retR g_r19_sum (Heap.le_refl _) ?_; simp -implicitDefEqProofs only [rs_r19_sum, hln, hw1, hn0, hn1, hin, hin1, hix2, hle2, hpw2, Nat.zero_add, go_sem, eq_self, Nat.reduceEqDiff, Nat.reduceBEq, Nat.reduceAdd, Nat.reduceLeDiff, reduceIte, reduceCtorEq, tysA, tyA, Ty.enc, Ty.encs])
      | (refine xo_gs rfl (fun h => ?_) (fun h => ?_) <;> first | (cases h; done) | simp -implicitDefEqProofs only [hln, hw1, hn0, hn1, hin, hin1, hix2, hle2, hpw2, Nat.zero_add, rs_r19_sum, Bool.not_eq_true', Bool.not_eq_false', go_sem, eq_self, Nat.reduceEqDiff, Nat.reduceBEq, Nat.reduceAdd, Nat.reduceLeDiff, reduceIte, reduceCtorEq, tysA, tyA, Ty.enc, Ty.encs])
      | (refine ⟨fun h => ?_, fun h => ?_⟩ <;> first | (cases h; done) | (simp -implicitDefEqProofs only [h]; done) | (try simp -implicitDefEqProofs only [h]))
      | fail))
        rw [hadd]
        refine .inr ⟨j2, hj2, ?_, ?_⟩
        · simp; omega
        · rw [hset]
  · have hil : i = ts.length := by omega
    have hdr : ts.drop i = [] := List.drop_of_length_le (by omega)
    cases hc0 : (c == 0) with
    | true =>
      (repeat' (first
      | refine Run.seq ?_
      | refine Run.skip ?_
      | refine Run.block ?_
      | refine Run.blk ?_
      | refine Run.scope ?_
      | refine Run.scp ?_
      | (refine Run.exit rfl ?_)
      | (refine Run.reg mixed ?_; simp -implicitDefEqProofs only [hlen, lt_f hlt, hc0, hm.noLp.1, rs_r19_sum, Bool.not_eq_true', Bool.not_eq_false', go_sem, eq_self, Nat.reduceEqDiff, Nat.reduceBEq, Nat.reduceAdd, Nat.reduceLeDiff, reduceIte, reduceCtorEq, tysA, tyA, Ty.enc, Ty.encs])
      | (refine Run.condM ?_; simp -implicitDefEqProofs only [hlen, lt_f hlt, hc0, hm.noLp.1, rs_r19_sum, Bool.not_eq_true', Bool.not_eq_false', go_sem, eq_self, Nat.reduceEqDiff, Nat.reduceBEq, Nat.reduceAdd, Nat.reduceLeDiff, reduceIte, reduceCtorEq, tysA, tyA, Ty.enc, Ty.encs])
      | (refine Run.retR g_r19_sum (Heap.le_refl _) ?_; simp -implicitDefEqProofs only [rs_r19_sum, hlen, lt_f hlt, hc0, hm.noLp.1, go_sem, eq_self, Nat.reduceEqDiff, Nat.reduceBEq, Nat.reduceAdd, Nat.reduceLeDiff, reduceIte, reduceCtorEq, tysA, tyA, Ty.enc, Ty.encs])
      | (refine xo_gs rfl (fun h => ?_) (fun h => ?_) <;> first | (cases h; done) | simp -implicitDefEqProofs only [hlen, lt_f hlt, hc0, hm.noLp.1, rs_r19_sum, Bool.not_eq_true', Bool.not_eq_false', go_sem, eq_self, Nat.reduceEqDiff, Nat.reduceBEq, Nat.reduceAdd, Nat.reduceLeDiff, reduceIte, reduceCtorEq, tysA, tyA, Ty.enc, Ty.encs])
      | (refine ⟨fun h => ?_, fun h => ?_⟩ <;> first | (cases h; done) | (simp -implicitDefEqProofs only [h]; done) | (try simp -implicitDefEqProofs only [h]))
      | fail))
      have hc0' : c = 0 := by simpa using hc0
      rw [hdr, addT, if_pos hc0', List.append_nil, List.take_of_length_le (by omega)] at hadd
      rw [hadd]; exact hm
    | false =>
      have hc0' : c ≠ 0 := by simpa using hc0
      rw [hdr, addT, if_neg hc0'] at hadd
      rw [show [(u, c)] = (u, c) :: ts.drop i by rw [hdr]] at hadd
      (repeat' (first
      | refine Run.seq ?_
      | refine Run.skip ?_
      | refine Run.block ?_
      | refine Run.blk ?_
      | refine Run.scope ?_
      | refine Run.scp ?_
      | (refine Run.exit rfl ?_)
      | (refine Run.reg mixed ?_; simp -implicitDefEqProofs only [hlen, lt_f hlt, hc0, rs_r19_sum, Bool.not_eq_true', Bool.not_eq_false', go_sem, eq_self, Nat.reduceEqDiff, Nat.reduceBEq, Nat.reduceAdd, Nat.reduceLeDiff, reduceIte, reduceCtorEq, tysA, tyA, Ty.enc, Ty.encs])
      | (refine Run.condM ?_; simp -implicitDefEqProofs only [hlen, lt_f hlt, hc0, rs_r19_sum, Bool.not_eq_true', Bool.not_eq_false', go_sem, eq_self, Nat.reduceEqDiff, Nat.reduceBEq, Nat.reduceAdd, Nat.reduceLeDiff, reduceIte, reduceCtorEq, tysA, tyA, Ty.enc, Ty.encs])
      | (refine xo_gs rfl (fun h => ?_) (fun h => ?_) <;> first | (cases h; done) | simp -implicitDefEqProofs only [hlen, lt_f hlt, hc0, rs_r19_sum, Bool.not_eq_true', Bool.not_eq_false', go_sem, eq_self, Nat.reduceEqDiff, Nat.reduceBEq, Nat.reduceAdd, Nat.reduceLeDiff, reduceIte, reduceCtorEq, tysA, tyA, Ty.enc, Ty.encs])
      | (refine ⟨fun h => ?_, fun h => ?_⟩ <;> first | (cases h; done) | (simp -implicitDefEqProofs only [h]; done) | (try simp -implicitDefEqProofs only [h]))
      | fail))
      refine XAppM.mr (us := [(0, 0)]) hm rfl (by simp; omega) (by omega) (fun v2 σ2 hm2 => ?_)
      rcases hm2 with ⟨he, _, _⟩ | ⟨j2, hj2, rfl, rfl⟩
      · simp at he
      have hln : (ts ++ [((0 : Int), (0 : Int))]).length = ts.length + 1 := by simp
      have hin : (i ≤ ts.length + 1) = True := by simp; omega
      have hin1 : (i + 1 ≤ ts.length + 1) = True := by simp; omega
      have hix2 : ((i : Int) < ((ts.length + 1 : Nat) : Int)) = True := by simp only [eq_iff_iff, iff_true]; omega
      have hpw2 := prs_wr2 _ i u c hlt1
      simp only [wr, List.length_cons, List.length_nil, Nat.zero_add] at hpw2
      have hle2 : (i * 2 + (0 + 1 + 1) ≤ (prs ((ts ++ [((0 : Int), (0 : Int))]).take (i + 1) ++ ts.drop i)).length) = True := by rw [prs_len]; simp; omega
      simp -implicitDefEqProofs only [hln, putO_some, setBlk_get, go_sem, eq_self, Nat.reduceEqDiff, Nat.reduceBEq, Nat.reduceAdd, Nat.reduceLeDiff, reduceIte, reduceCtorEq, tysA, tyA, Ty.enc, Ty.encs]
      (repeat' (first
      | refine Run.seq ?_
      | refine Run.skip ?_
      | refine Run.block ?_
      | refine Run.blk ?_
      | refine Run.scope ?_
      | refine Run.scp ?_
      | (refine Run.exit rfl ?_)
      | (refine Run.reg mixed ?_; simp -implicitDefEqProofs only [hln, hw1, hn0, hn1, hin, hin1, hix2, hle2, hpw2, Nat.zero_add, rs_r19_sum, Bool.not_eq_true', Bool.not_eq_false', go_sem, eq_self, Nat.reduceEqDiff, Nat.reduceBEq, Nat.reduceAdd, Nat.reduceLeDiff, reduceIte, reduceCtorEq, tysA, tyA, Ty.enc, Ty.encs])
      | (refine Run.condM ?_; simp -implicitDefEqProofs only [hln, hw1, hn0, hn1, hin, hin1, hix2, hle2, hpw2, Nat.zero_add, rs_r19_sum, Bool.not_eq_true', Bool.not_eq_false', go_sem, eq_self, Nat.reduceEqDiff, Nat.reduceBEq, Nat.reduceAdd, Nat.reduceLeDiff, reduceIte, reduceCtorEq, tysA, tyA, Ty.enc, Ty.encs])
      | (refine XEx.cpy (cs := prs (ts ++ [(0, 0)])) (cs' := prs ((ts ++ [(0, 0)]).take (i + 1) ++ ts.drop i)) (by simp only [setBlk_get, if_true]) (by rw [prs_len, hln]; omega) (by rw [prs_len, hln]; omega) (hins (j := 0) _ rfl) ?_; (try simp -implicitDefEqProofs only [hln, hw1, hn0, hn1, hin, hin1, hix2, hle2, hpw2, Nat.zero_add, rs_r19_sum, Bool.not_eq_true', Bool.not_eq_false', go_sem, eq_self, Nat.reduceEqDiff, Nat.reduceBEq, Nat.reduceAdd, Nat.reduceLeDiff, reduceIte, reduceCtorEq, tysA, tyA, Ty.enc, Ty.encs]))
      | (refine Run.retR g_r19_sum (Heap.le_refl _) ?_; simp -implicitDefEqProofs only [rs_r19_sum, hln, hw1, hn0, hn1, hin, hin1, hix2, hle2, hpw2, Nat.zero_add, go_sem, eq_self, Nat.reduceEqDiff, Nat.reduceBEq, Nat.reduceAdd, Nat.reduceLeDiff, reduceIte, reduceCtorEq, tysA, tyA, Ty.enc, Ty.encs])
      | (refine xo_gs rfl (fun h => ?_) (fun h => ?_) <;> first | (cases h; done) | simp -implicitDefEqProofs only [hln, hw1, hn0, hn1, hin, hin1, hix2, hle2, hpw2, Nat.zero_add, rs_r19_sum, Bool.not_eq_true', Bool.not_eq_false', go_sem, eq_self, Nat.reduceEqDiff, Nat.reduceBEq, Nat.reduceAdd, Nat.reduceLeDiff, reduceIte, reduceCtorEq, tysA, tyA, Ty.enc, Ty.encs])
      | (refine ⟨fun h => ?_, fun h => ?_⟩ <;> first | (cases h; done) | (simp -implicitDefEqProofs only [h]; done) | (try simp -implicitDefEqProofs only [h]))
      | fail))
      rw [hadd]
      refine .inr ⟨j2, hj2, ?_, ?_⟩
      · simp; omega
      · rw [hset]
end Go.Ab
