/- Texts split into tokens, as the reference does it. Conditions: none. -/
import Derived.Test.YtlckhmkeihbhmaaXXd
set_option linter.unusedSimpArgs false
namespace Go.Ab
open Go.Proofs
theorem witB_eq (z : UInt8) : clsB witB z = (lowB z.toNat || uppB z.toNat || digB z.toNat || ((z.toNat : Int) == 95)) := rfl
theorem r3_Split_L1_ok (s : Str) (i : Nat) (x : UInt8) (hx : s[i]? = some x) (hw : clsB witB x = true) (hl : s.length ≤ 16384) (σ1 : Heap) (a5 a7 : AV) (K : AV → Heap → Prop) (k : List CI)
    (hk : Run x_r3_Split K k (put 0 (.d (.str s)) (put 5 a5 (put 6 (.d (.int .i64 i)) (put 7 a7 (put 8 (.d (.int .i64 (((s.drop i).takeWhile (clsB witB)).length : Nat))) U))))) E σ1) :
    Run x_r3_Split K (.again c_r3_Split_L1 :: .blk 5 :: k) (put 0 (.d (.str s)) (put 5 a5 (put 6 (.d (.int .i64 i)) (put 7 a7 (put 8 (.d (.int .i64 1)) U))))) E σ1 := by
  refine Run.loopI ((fun (a0 : AV) (a5 : AV) (a6 : AV) (a7 : AV) => fun (m : Nat) => put 0 a0 (put 5 a5 (put 6 a6 (put 7 a7 (put 8 (.d (.int .i64 m)) U))))) _ _ _ _) (fun _ => E) (fun _ => σ1) (fun m => 1 ≤ m ∧ i + m ≤ s.length ∧ ∀ q b, q < m → (s.drop i)[q]? = some b → clsB witB b = true) (fun m => s.length - m) ?_ 1 ⟨by omega, ?_, ?_⟩
  · rintro m ⟨h1, hm, hall⟩ ih
    have hw0 := wrap_add (show i + m ≤ 9000000000000000000 by omega)
    have hw1 := wrap_succ (show m + 1 ≤ 9000000000000000000 by omega)
    have hend : (∀ b, (s.drop i)[m]? = some b → clsB witB b = false) → ((s.drop i).takeWhile (clsB witB)).length = m := fun h => by
      rw [takeWhile_drop hall (by simp; omega) h]; simp; omega
    by_cases hlt : i + m < s.length
    · obtain ⟨z, hz⟩ := ex_at hlt
      have hz2 : (s.drop i)[m]? = some z := by rw [List.getElem?_drop]; exact hz
      have hstep : clsB witB z = true → ∀ q b, q < m + 1 → (s.drop i)[q]? = some b → clsB witB b = true := fun hc q b hq hb => by
        rcases Nat.lt_or_ge q m with h2 | h2
        · exact hall q b h2 hb
        · have : q = m := by omega
          subst this; rw [hz2] at hb; cases hb; exact hc
      (repeat' (first|refine Run.ct rfl ?_|((first|refine Run.reg mixed ?_|refine Run.condM ?_|refine XCall.det (r3_lower_ok _ _) ?_|refine XCall.det (r3_upper_ok _ _) ?_|refine XCall.det (r3_digit_ok _ _) ?_|(refine xo_gs rfl (fun h => ?_) (fun h => ?_) <;> try (cases h; done))) <;> try simp -implicitDefEqProofs only [hw0, hw1, lt_t hlt, sidx_at hz, go_sem, Nat.reduceEqDiff, Nat.reduceBEq, Nat.reduceAdd, Nat.reduceLeDiff, reduceIte, reduceCtorEq])|(refine ⟨fun h => ?_, fun h => ?_⟩ <;> first|(cases h; done)|try simp only [h])|fail))
      all_goals first
        | exact ih (m + 1) ⟨by omega, by omega, hstep (by simp_all [witB_eq])⟩ (by omega)
        | (rw [hend (fun b hb => by rw [hz2] at hb; cases hb; simp_all [witB_eq])] at hk; refine Run.prune [0, 5, 6, 7, 8] ?_; simp -implicitDefEqProofs only [go_sem, Nat.reduceEqDiff, Nat.reduceBEq, Nat.reduceAdd, Nat.reduceLeDiff, reduceIte, reduceCtorEq]; exact hk)
    · (repeat' (first|refine Run.ct rfl ?_|((first|refine Run.reg mixed ?_|refine Run.condM ?_|(refine xo_gs rfl (fun h => ?_) (fun h => ?_) <;> try (cases h; done))) <;> try simp -implicitDefEqProofs only [hw0, lt_f hlt, go_sem, Nat.reduceEqDiff, Nat.reduceBEq, Nat.reduceAdd, Nat.reduceLeDiff, reduceIte, reduceCtorEq])|(refine ⟨fun h => ?_, fun h => ?_⟩ <;> first|(cases h; done)|try simp only [h])|fail))
      rw [hend (fun b hb => by rw [List.getElem?_drop, List.getElem?_eq_none (by omega)] at hb; cases hb)] at hk
      refine Run.prune [0, 5, 6, 7, 8] ?_; simp -implicitDefEqProofs only [go_sem, Nat.reduceEqDiff, Nat.reduceBEq, Nat.reduceAdd, Nat.reduceLeDiff, reduceIte, reduceCtorEq]
      exact hk
  · have := (List.getElem?_eq_some_iff.1 hx).1; omega
  · intro q b hq hb
    have : q = 0 := by omega
    subst this
    rw [List.getElem?_drop, Nat.add_zero, hx] at hb; cases hb; exact hw
theorem r3_Split_L2_ok (s : Str) (i : Nat) (x : UInt8) (hx : s[i]? = some x) (hw : clsB digB x = true) (hl : s.length ≤ 16384) (σ1 : Heap) (a5 a7 : AV) (K : AV → Heap → Prop) (k : List CI)
    (hk : Run x_r3_Split K k (put 0 (.d (.str s)) (put 5 a5 (put 6 (.d (.int .i64 i)) (put 7 a7 (put 8 (.d (.int .i64 (((s.drop i).takeWhile (clsB digB)).length : Nat))) U))))) E σ1) :
    Run x_r3_Split K (.again c_r3_Split_L2 :: .blk 7 :: k) (put 0 (.d (.str s)) (put 5 a5 (put 6 (.d (.int .i64 i)) (put 7 a7 (put 8 (.d (.int .i64 1)) U))))) E σ1 := by
  refine Run.loopI ((fun (a0 : AV) (a5 : AV) (a6 : AV) (a7 : AV) => fun (m : Nat) => put 0 a0 (put 5 a5 (put 6 a6 (put 7 a7 (put 8 (.d (.int .i64 m)) U))))) _ _ _ _) (fun _ => E) (fun _ => σ1) (fun m => 1 ≤ m ∧ i + m ≤ s.length ∧ ∀ q b, q < m → (s.drop i)[q]? = some b → clsB digB b = true) (fun m => s.length - m) ?_ 1 ⟨by omega, ?_, ?_⟩
  · rintro m ⟨h1, hm, hall⟩ ih
    have hw0 := wrap_add (show i + m ≤ 9000000000000000000 by omega)
    have hw1 := wrap_succ (show m + 1 ≤ 9000000000000000000 by omega)
    have hend : (∀ b, (s.drop i)[m]? = some b → clsB digB b = false) → ((s.drop i).takeWhile (clsB digB)).length = m := fun h => by
      rw [takeWhile_drop hall (by simp; omega) h]; simp; omega
    by_cases hlt : i + m < s.length
    · obtain ⟨z, hz⟩ := ex_at hlt
      have hz2 : (s.drop i)[m]? = some z := by rw [List.getElem?_drop]; exact hz
      have hstep : clsB digB z = true → ∀ q b, q < m + 1 → (s.drop i)[q]? = some b → clsB digB b = true := fun hc q b hq hb => by
        rcases Nat.lt_or_ge q m with h2 | h2
        · exact hall q b h2 hb
        · have : q = m := by omega
          subst this; rw [hz2] at hb; cases hb; exact hc
      cases hd : digB z.toNat with
      | true =>
        (repeat' (first|refine Run.ct rfl ?_|((first|refine Run.reg mixed ?_|refine Run.condM ?_|refine XCall.det (r3_digit_ok _ _) ?_|(refine xo_gs rfl (fun h => ?_) (fun h => ?_) <;> try (cases h; done))) <;> try simp -implicitDefEqProofs only [hw0, hw1, lt_t hlt, sidx_at hz, hd, go_sem, Nat.reduceEqDiff, Nat.reduceBEq, Nat.reduceAdd, Nat.reduceLeDiff, reduceIte, reduceCtorEq])|(refine ⟨fun h => ?_, fun h => ?_⟩ <;> first|(cases h; done)|try simp only [h])|fail))
        exact ih (m + 1) ⟨by omega, by omega, hstep hd⟩ (by omega)
      | false =>
        (repeat' (first|refine Run.ct rfl ?_|((first|refine Run.reg mixed ?_|refine Run.condM ?_|refine XCall.det (r3_digit_ok _ _) ?_|(refine xo_gs rfl (fun h => ?_) (fun h => ?_) <;> try (cases h; done))) <;> try simp -implicitDefEqProofs only [hw0, hw1, lt_t hlt, sidx_at hz, hd, go_sem, Nat.reduceEqDiff, Nat.reduceBEq, Nat.reduceAdd, Nat.reduceLeDiff, reduceIte, reduceCtorEq])|(refine ⟨fun h => ?_, fun h => ?_⟩ <;> first|(cases h; done)|try simp only [h])|fail))
        rw [hend (fun b hb => by rw [hz2] at hb; cases hb; exact hd)] at hk
        refine Run.prune [0, 5, 6, 7, 8] ?_; simp -implicitDefEqProofs only [go_sem, Nat.reduceEqDiff, Nat.reduceBEq, Nat.reduceAdd, Nat.reduceLeDiff, reduceIte, reduceCtorEq]
        exact hk
    · (repeat' (first|refine Run.ct rfl ?_|((first|refine Run.reg mixed ?_|refine Run.condM ?_|(refine xo_gs rfl (fun h => ?_) (fun h => ?_) <;> try (cases h; done))) <;> try simp -implicitDefEqProofs only [hw0, lt_f hlt, go_sem, Nat.reduceEqDiff, Nat.reduceBEq, Nat.reduceAdd, Nat.reduceLeDiff, reduceIte, reduceCtorEq])|(refine ⟨fun h => ?_, fun h => ?_⟩ <;> first|(cases h; done)|try simp only [h])|fail))
      rw [hend (fun b hb => by rw [List.getElem?_drop, List.getElem?_eq_none (by omega)] at hb; cases hb)] at hk
      refine Run.prune [0, 5, 6, 7, 8] ?_; simp -implicitDefEqProofs only [go_sem, Nat.reduceEqDiff, Nat.reduceBEq, Nat.reduceAdd, Nat.reduceLeDiff, reduceIte, reduceCtorEq]
      exact hk
  · have := (List.getElem?_eq_some_iff.1 hx).1; omega
  · intro q b hq hb
    have : q = 0 := by omega
    subst this
    rw [List.getElem?_drop, Nat.add_zero, hx] at hb; cases hb; exact hw
theorem ssl_word {c : UInt8 → Bool} (s : Str) (i : Nat) (hi : i ≤ s.length) : sslA (.d (.str s)) (some (.d (.int .i64 (i : Int)))) (some (.d (.int .i64 ((i + ((s.drop i).takeWhile c).length : Nat) : Int)))) = some (.d (.str ((s.drop i).takeWhile c))) := by
  have h := takeWhile_len c (s.drop i)
  rw [List.length_drop] at h
  rw [ssl_lh (by omega) (by omega), List.drop_take, Nat.add_sub_cancel_left]
  congr 3
  exact (List.prefix_iff_eq_take.1 (List.takeWhile_prefix c)).symm
theorem ssl_sign (s : Str) (i n : Nat) (hi : i ≤ s.length) (hn : n ≤ (s.drop i).length) : sslA (.d (.str s)) (some (.d (.int .i64 (i : Int)))) (some (.d (.int .i64 ((i + n : Nat) : Int)))) = some (.d (.str ((s.drop i).take n))) := by
  rw [List.length_drop] at hn
  rw [ssl_lh (by omega) (by omega), List.drop_take, Nat.add_sub_cancel_left]
theorem blaB_eq (x : UInt8) : blaB x.toNat = (x == 9 || x == 10 || x == 13 || x == 32) := by
  simp only [blaB]
  rw [← u8eq x 9, ← u8eq x 10, ← u8eq x 13, ← u8eq x 32]; rfl
theorem signN_le : ∀ (b : UInt8) (r : Str), signN (b :: r) ≤ (b :: r).length
  | b, [] => by simp only [signN, sgn1]; split <;> simp
  | b, c :: r => by
    simp only [signN]
    cases sgn2 b c
    · simp only [sgn1, Bool.false_eq_true, if_false]; split <;> simp
    · simp
set_option maxHeartbeats 4000000 in
theorem r3_Split_ok (s : Str) (σ : Heap) : ACalls Try.prog 33 [.d (.str s)] σ (fun v σ' => v = splitA (splitP s) ∧ σ' = σ) := by
  refine i_r3_Split (by simp) ?_
  rw [argF_1]
  by_cases hl : s.length > 16384
  · (repeat' (first|refine Run.ct rfl ?_|((first|refine Run.reg mixed ?_|refine Run.condM ?_|refine Run.retP g_r3_Split (Heap.le_refl _) ?_|(refine xo_gs rfl (fun h => ?_) (fun h => ?_) <;> try (cases h; done))) <;> try simp -implicitDefEqProofs only [gtMax, decide_eq_true hl, go_sem, Nat.reduceEqDiff, Nat.reduceBEq, Nat.reduceAdd, Nat.reduceLeDiff, reduceIte, reduceCtorEq])|(refine ⟨fun h => ?_, fun h => ?_⟩ <;> first|(cases h; done)|try simp only [h])|fail))
    simp [splitA, splitP, hl]
  · (repeat' (first|refine Run.ct rfl ?_|((first|refine Run.reg mixed ?_|refine Run.condM ?_|(refine xo_gs rfl (fun h => ?_) (fun h => ?_) <;> try (cases h; done))) <;> try simp -implicitDefEqProofs only [gtMax, decide_eq_false hl, go_sem, Nat.reduceEqDiff, Nat.reduceBEq, Nat.reduceAdd, Nat.reduceLeDiff, reduceIte, reduceCtorEq])|(refine ⟨fun h => ?_, fun h => ?_⟩ <;> first|(cases h; done)|try simp only [h])|fail))
    refine Run.loopA ?_
    refine Run.loopI ((fun (a0 : AV) => fun (y : Nat × AV × Heap) => put 0 a0 (put 5 (y.2.1) (put 6 (.d (.int .i64 y.1)) U))) _) (fun _ => E) (fun y => y.2.2) (fun y => y.1 ≤ s.length ∧ ∃ acc n, OwnS σ 87 3 (acc.map Tok.enc) y.2.1 y.2.2 ∧ acc.length ≤ y.1 ∧ s.length - y.1 < n ∧ splitP s = splGo n (s.drop y.1) y.1 acc) (fun y => s.length - y.1) ?_ (0, .nils, σ) ⟨by simp, [], s.length + 1, OwnS.nil _ _ _, by simp, by simp, by simp [splitP, hl]⟩
    rintro ⟨i, v, σ1⟩ ⟨hi, acc, n, ho, hac, hn, hs⟩ ih
    simp only at hi ho hac hn hs
    obtain ⟨n, rfl⟩ : ∃ m, n = m + 1 := ⟨n - 1, by omega⟩
    by_cases hlt : i < s.length
    · obtain ⟨x, hx⟩ := ex_at hlt
      rw [drop_at hx, splGo] at hs
      have hw1 := wrap_succ (show i + 1 ≤ 9000000000000000000 by omega)
      have hsl : (x :: s.drop (i + 1)).length = s.length - i := by simp; omega
      cases hb : blaB x.toNat with
      | true =>
        rw [hb, if_pos rfl] at hs
        (repeat' (first|refine Run.ct rfl ?_|((first|refine Run.reg mixed ?_|refine Run.condM ?_|(refine xo_gs rfl (fun h => ?_) (fun h => ?_) <;> try (cases h; done))) <;> try simp -implicitDefEqProofs only [lt_t hlt, sidx_at hx, hw1, go_sem, Nat.reduceEqDiff, Nat.reduceBEq, Nat.reduceAdd, Nat.reduceLeDiff, reduceIte, reduceCtorEq])|(refine ⟨fun h => ?_, fun h => ?_⟩ <;> first|(cases h; done)|try simp only [h])|fail))
        all_goals first
          | exact ih (i + 1, v, σ1) ⟨hlt, acc, n, ho, by simp only; omega, by simp only; omega, hs⟩ (by simp only; omega)
          | (exfalso; simp_all [blaB]; done)
      | false =>
        rw [hb, if_neg (by simp)] at hs
        simp only [blaB, Bool.or_eq_false_iff] at hb
        obtain ⟨⟨⟨h9, h10⟩, h13⟩, h32⟩ := hb
        cases hc : (x == 35) with
        | true =>
          rw [hc, if_pos rfl] at hs
          (repeat' (first|refine Run.ct rfl ?_|((first|refine Run.reg mixed ?_|refine Run.condM ?_|(refine xo_gs rfl (fun h => ?_) (fun h => ?_) <;> try (cases h; done))) <;> try simp -implicitDefEqProofs only [lt_t hlt, sidx_at hx, h9, h10, h13, h32, u8eq35, hc, go_sem, Nat.reduceEqDiff, Nat.reduceBEq, Nat.reduceAdd, Nat.reduceLeDiff, reduceIte, reduceCtorEq])|(refine ⟨fun h => ?_, fun h => ?_⟩ <;> first|(cases h; done)|try simp only [h])|fail))
          refine Run.prune [0, 5, 6] ?_; simp -implicitDefEqProofs only [go_sem, Nat.reduceEqDiff, Nat.reduceBEq, Nat.reduceAdd, Nat.reduceLeDiff, reduceIte, reduceCtorEq]
          refine Run.loopA ?_
          refine Run.loopI ((fun (a0 : AV) (a5 : AV) => fun (j : Nat) => put 0 a0 (put 5 a5 (put 6 (.d (.int .i64 j)) U))) _ _) (fun _ => E) (fun _ => σ1) (fun j => i ≤ j ∧ j ≤ s.length ∧ ∀ q b, q < j - i → (s.drop i)[q]? = some b → (!(b == 10)) = true) (fun j => s.length - j) ?_ i ⟨Nat.le_refl i, hi, by intro q b hq; omega⟩
          rintro j ⟨hij, hj, hall⟩ ih2
          have hw2 := wrap_succ (show j + 1 ≤ 9000000000000000000 by omega)
          have hend : (∀ z, s[j]? = some z → (z == 10) = true) → j ≠ i ∧ splitP s = splGo n (s.drop j) j acc := fun hz => by
            have hji : j ≠ i := fun e => by
              subst e
              have h10 := hz x hx
              simp only [beq_iff_eq] at hc h10
              rw [hc] at h10; exact absurd h10 (by decide)
            have hk : cmt (x :: s.drop (i + 1)) = j - i := by
              rw [← drop_at hx, cmt, takeWhile_drop hall (by simp; omega) (fun b hb => by
                rw [List.getElem?_drop, show i + (j - i) = j by omega] at hb
                simp [hz b hb])]
              simp; omega
            rw [hk, ← drop_at hx, List.drop_drop, show i + (j - i) = j by omega] at hs
            exact ⟨hji, hs⟩
          by_cases hjl : j < s.length
          · obtain ⟨z, hz⟩ := ex_at hjl
            have hz2 : (s.drop i)[j - i]? = some z := by rw [List.getElem?_drop, show i + (j - i) = j by omega]; exact hz
            cases h10 : (z == 10) with
            | true =>
              obtain ⟨hji, hs⟩ := hend (fun z' hz' => by rw [hz] at hz'; cases hz'; exact h10)
              (repeat' (first|refine Run.ct rfl ?_|((first|refine Run.reg mixed ?_|refine Run.condM ?_|(refine xo_gs rfl (fun h => ?_) (fun h => ?_) <;> try (cases h; done))) <;> try simp -implicitDefEqProofs only [lt_t hjl, sidx_at hz, u8eq10, bne, h10, go_sem, Nat.reduceEqDiff, Nat.reduceBEq, Nat.reduceAdd, Nat.reduceLeDiff, reduceIte, reduceCtorEq])|(refine ⟨fun h => ?_, fun h => ?_⟩ <;> first|(cases h; done)|try simp only [h])|fail))
              refine Run.prune [0, 5, 6] ?_; simp -implicitDefEqProofs only [go_sem, Nat.reduceEqDiff, Nat.reduceBEq, Nat.reduceAdd, Nat.reduceLeDiff, reduceIte, reduceCtorEq]
              exact ih (j, v, σ1) ⟨hj, acc, n, ho, by simp only; omega, by simp only; omega, hs⟩ (by simp only; omega)
            | false =>
              (repeat' (first|refine Run.ct rfl ?_|((first|refine Run.reg mixed ?_|refine Run.condM ?_|(refine xo_gs rfl (fun h => ?_) (fun h => ?_) <;> try (cases h; done))) <;> try simp -implicitDefEqProofs only [lt_t hjl, sidx_at hz, u8eq10, bne, h10, hw2, go_sem, Nat.reduceEqDiff, Nat.reduceBEq, Nat.reduceAdd, Nat.reduceLeDiff, reduceIte, reduceCtorEq])|(refine ⟨fun h => ?_, fun h => ?_⟩ <;> first|(cases h; done)|try simp only [h])|fail))
              refine ih2 (j + 1) ⟨by omega, hjl, fun q b hq hb => ?_⟩ (by omega)
              rcases Nat.lt_or_ge q (j - i) with h2 | h2
              · exact hall q b h2 hb
              · have : q = j - i := by omega
                subst this
                rw [hz2] at hb; cases hb; simp [h10]
          · obtain ⟨hji, hs⟩ := hend (fun z hz => by rw [List.getElem?_eq_none (by omega)] at hz; cases hz)
            (repeat' (first|refine Run.ct rfl ?_|((first|refine Run.reg mixed ?_|refine Run.condM ?_|(refine xo_gs rfl (fun h => ?_) (fun h => ?_) <;> try (cases h; done))) <;> try simp -implicitDefEqProofs only [lt_f hjl, go_sem, Nat.reduceEqDiff, Nat.reduceBEq, Nat.reduceAdd, Nat.reduceLeDiff, reduceIte, reduceCtorEq])|(refine ⟨fun h => ?_, fun h => ?_⟩ <;> first|(cases h; done)|try simp only [h])|fail))
            refine Run.prune [0, 5, 6] ?_; simp -implicitDefEqProofs only [go_sem, Nat.reduceEqDiff, Nat.reduceBEq, Nat.reduceAdd, Nat.reduceLeDiff, reduceIte, reduceCtorEq]
            exact ih (j, v, σ1) ⟨hj, acc, n, ho, by simp only; omega, by simp only; omega, hs⟩ (by simp only; omega)
        | false =>
          rw [hc, if_neg (by simp)] at hs
          have hld : s.drop i = x :: s.drop (i + 1) := drop_at hx
          have hss : sslA (.d (.str s)) (some (.d (.int .i64 (i : Int)))) none = some (.d (.str (x :: s.drop (i + 1)))) := by rw [ssl_lo hi, hld]
          -- behind a token
          have next : ∀ (k : Int) (t : Str) (v2 : AV) (σ2 : Heap), scanP (x :: s.drop (i + 1)) = .ok (k, t) → OwnS σ 87 3 (acc.map Tok.enc ++ [[.int .i64 k, .str t, .int .i64 i]]) v2 σ2 →
              1 ≤ t.length ∧ i + t.length ≤ s.length ∧ (i + t.length ≤ s.length ∧ ∃ acc n, OwnS σ 87 3 (acc.map Tok.enc) v2 σ2 ∧ acc.length ≤ i + t.length ∧ s.length - (i + t.length) < n ∧ splitP s = splGo n (s.drop (i + t.length)) (i + t.length) acc) := fun k t v2 σ2 hsc ho2 => by
            have hsn := scan_len hsc
            rw [hsl] at hsn
            rw [hsc] at hs
            refine ⟨hsn.1, by omega, by omega, acc ++ [⟨k, t, i⟩], n, by simpa [Tok.enc] using ho2, by simp only [List.length_append, List.length_singleton]; omega, by omega, ?_⟩
            rw [hs]; simp only; rw [← drop_at hx, List.drop_drop]
          have fail : ∀ e : Int, scanP (x :: s.drop (i + 1)) = .error e → splitP s = ([], i, e) := fun e he => by rw [hs, he]
          have hwd := ssl_word (c := clsB witB) s i hi
          have hdd := ssl_word (c := clsB digB) s i hi
          have hsg := ssl_sign s i (signN (x :: s.drop (i + 1))) hi (by rw [hld]; exact signN_le _ _)
          have hwl := takeWhile_len (clsB witB) (s.drop i)
          have hdl := takeWhile_len (clsB digB) (s.drop i)
          have hsl2 := signN_le x (s.drop (i + 1))
          have hL1 := r3_Split_L1_ok s i x hx
          have hL2 := r3_Split_L2_ok s i x hx
          rw [hld] at hwd hdd hsg hwl hdl hL1 hL2
          simp only [hsl] at hwl hdl hsl2
          have hw0 := fun n (h : n ≤ s.length - i) => wrap_add (show i + n ≤ 9000000000000000000 by omega)
          have hap : ∀ (r : List DV), r.length = 3 → ∀ q ∈ [r], q.length = 3 := fun r hr q hq => by rw [List.mem_singleton] at hq; rw [hq]; exact hr
          have gt24' := gt24
          have gt1' := gt1
          by_cases hlu : (lowB x.toNat || uppB x.toNat) = true
          · have hwx : clsB witB x = true := by rw [witB_eq, hlu]; rfl
            have hsc : scanP (x :: s.drop (i + 1)) = if decide (((x :: s.drop (i + 1)).takeWhile (clsB witB)).length > 24) then .error 9
      else if uppB x.toNat then .ok (2, (x :: s.drop (i + 1)).takeWhile (clsB witB))
      else if keyB ((x :: s.drop (i + 1)).takeWhile (clsB witB)) then .ok (4, (x :: s.drop (i + 1)).takeWhile (clsB witB))
      else .ok (1, (x :: s.drop (i + 1)).takeWhile (clsB witB)) := by rw [scanP, if_pos hlu]
            have hL := fun K k => hL1 hwx (by omega) σ1 v (.d (.int .u8 x.toNat)) K k
            generalize ((x :: s.drop (i + 1)).takeWhile (clsB witB)) = w at hwd hwl hsc hL
            have hwn := hw0 w.length hwl
            cases hup : uppB x.toNat <;> cases hlo : lowB x.toNat <;> rw [hup] at hsc <;> first | (simp only [hup, hlo, Bool.or_self, Bool.false_eq_true] at hlu; done) | skip
            all_goals (repeat' (first|refine Run.ct rfl ?_|((first|refine Run.reg mixed ?_|refine Run.condM ?_|(refine Run.loopA ?_; refine Run.prune [0, 5, 6, 7, 8] ?_; simp -implicitDefEqProofs only [go_sem, Nat.reduceEqDiff, Nat.reduceBEq, Nat.reduceAdd, Nat.reduceLeDiff, reduceIte, reduceCtorEq]; refine hL _ _ ?_)|(refine XApp.own ho rfl (by simp) (by simp; omega) (by decide) (fun v2 σ2 ho2 hbk => ?_))|(refine Run.retP g_r3_Split ho.le ?_)|refine XCall.det (r3_lower_ok _ _) ?_|refine XCall.det (r3_upper_ok _ _) ?_|refine XCall.det (r3_Keyword_ok _ _) ?_|(refine xo_gs rfl (fun h => ?_) (fun h => ?_) <;> try (cases h; done))) <;> try simp -implicitDefEqProofs only [hup, hlo, lt_t hlt, sidx_at hx, h9, h10, h13, h32, u8eq35, hc, hwn, hwd, gt24', ho.lpOf, Bool.false_eq_true, go_sem, Nat.reduceEqDiff, Nat.reduceBEq, Nat.reduceAdd, Nat.reduceLeDiff, reduceIte, reduceCtorEq])|(refine ⟨fun h => ?_, fun h => ?_⟩ <;> first|(cases h; done)|try simp only [h])|fail))
            all_goals first
              | (obtain ⟨p1, p2, p3⟩ := next _ w _ _ (by rw [hsc]; simp only [*, Bool.false_eq_true, reduceIte, Bool.and_true, Bool.and_false, Bool.true_and, Bool.false_and, Option.isSome_some, Option.isSome_none]) ho2; exact ih (i + w.length, _, _) p3 (by simp only; omega))
              | (rw [fail 9 (by rw [hsc]; simp only [*, Bool.false_eq_true, reduceIte, Bool.and_true, Bool.and_false, Bool.true_and, Bool.false_and, Option.isSome_some, Option.isSome_none])]; simp [splitA]; done)
          · simp only [Bool.not_eq_true, Bool.or_eq_false_iff] at hlu
            have hnlu : ¬ (lowB x.toNat || uppB x.toNat) = true := by simp [hlu]
            cases hdg : digB x.toNat with
            | true =>
              have hsc : scanP (x :: s.drop (i + 1)) = if x == 48 && decide (((x :: s.drop (i + 1)).takeWhile (clsB digB)).length > 1) then .error 2
      else if (valGo ((x :: s.drop (i + 1)).takeWhile (clsB digB)) 0).isSome then .ok (3, (x :: s.drop (i + 1)).takeWhile (clsB digB))
      else .error 9 := by rw [scanP, if_neg hnlu, if_pos hdg]
              have hL := fun K k => hL2 hdg (by omega) σ1 v (.d (.int .u8 x.toNat)) K k
              generalize ((x :: s.drop (i + 1)).takeWhile (clsB digB)) = w at hdd hdl hsc hL
              have hwn := hw0 w.length hdl
              have hval := r3_Value_ok w σ1 (by omega)
              cases hv : valGo w 0 with
              | some z =>
                rw [hv] at hval
                (repeat' (first|refine Run.ct rfl ?_|((first|refine Run.reg mixed ?_|refine Run.condM ?_|(refine Run.loopA ?_; refine Run.prune [0, 5, 6, 7, 8] ?_; simp -implicitDefEqProofs only [go_sem, Nat.reduceEqDiff, Nat.reduceBEq, Nat.reduceAdd, Nat.reduceLeDiff, reduceIte, reduceCtorEq]; refine hL _ _ ?_)|(refine XApp.own ho rfl (by simp) (by simp; omega) (by decide) (fun v2 σ2 ho2 hbk => ?_))|(refine Run.retP g_r3_Split ho.le ?_)|refine XCall.det (r3_lower_ok _ _) ?_|refine XCall.det (r3_upper_ok _ _) ?_|refine XCall.det (r3_digit_ok _ _) ?_|refine XCall.det (hval) ?_|(refine xo_gs rfl (fun h => ?_) (fun h => ?_) <;> try (cases h; done))) <;> try simp -implicitDefEqProofs only [lt_t hlt, sidx_at hx, h9, h10, h13, h32, u8eq35, hc, hwn, hdd, gt1', u8eqc, hlu.1, hlu.2, hdg, ho.lpOf, Bool.false_eq_true, go_sem, Nat.reduceEqDiff, Nat.reduceBEq, Nat.reduceAdd, Nat.reduceLeDiff, reduceIte, reduceCtorEq])|(refine ⟨fun h => ?_, fun h => ?_⟩ <;> first|(cases h; done)|try simp only [h])|fail))
                all_goals first
                  | (obtain ⟨p1, p2, p3⟩ := next _ w _ _ (by rw [hsc]; simp only [*, Bool.false_eq_true, reduceIte, Bool.and_true, Bool.and_false, Bool.true_and, Bool.false_and, Option.isSome_some, Option.isSome_none]) ho2; exact ih (i + w.length, _, _) p3 (by simp only; omega))
                  | (rw [fail 2 (by rw [hsc]; simp only [*, Bool.false_eq_true, reduceIte, Bool.and_true, Bool.and_false, Bool.true_and, Bool.false_and, Option.isSome_some, Option.isSome_none])]; simp [splitA]; done)
              | none =>
                rw [hv] at hval
                (repeat' (first|refine Run.ct rfl ?_|((first|refine Run.reg mixed ?_|refine Run.condM ?_|(refine Run.loopA ?_; refine Run.prune [0, 5, 6, 7, 8] ?_; simp -implicitDefEqProofs only [go_sem, Nat.reduceEqDiff, Nat.reduceBEq, Nat.reduceAdd, Nat.reduceLeDiff, reduceIte, reduceCtorEq]; refine hL _ _ ?_)|(refine XApp.own ho rfl (by simp) (by simp; omega) (by decide) (fun v2 σ2 ho2 hbk => ?_))|(refine Run.retP g_r3_Split ho.le ?_)|refine XCall.det (r3_lower_ok _ _) ?_|refine XCall.det (r3_upper_ok _ _) ?_|refine XCall.det (r3_digit_ok _ _) ?_|refine XCall.det (hval) ?_|(refine xo_gs rfl (fun h => ?_) (fun h => ?_) <;> try (cases h; done))) <;> try simp -implicitDefEqProofs only [lt_t hlt, sidx_at hx, h9, h10, h13, h32, u8eq35, hc, hwn, hdd, gt1', u8eqc, hlu.1, hlu.2, hdg, ho.lpOf, Bool.false_eq_true, go_sem, Nat.reduceEqDiff, Nat.reduceBEq, Nat.reduceAdd, Nat.reduceLeDiff, reduceIte, reduceCtorEq])|(refine ⟨fun h => ?_, fun h => ?_⟩ <;> first|(cases h; done)|try simp only [h])|fail))
                all_goals first
                  | (rw [fail 2 (by rw [hsc]; simp only [*, Bool.false_eq_true, reduceIte, Bool.and_true, Bool.and_false, Bool.true_and, Bool.false_and, Option.isSome_some, Option.isSome_none])]; simp [splitA]; done)
                  | (rw [fail 9 (by rw [hsc]; simp only [*, Bool.false_eq_true, reduceIte, Bool.and_true, Bool.and_false, Bool.true_and, Bool.false_and, Option.isSome_some, Option.isSome_none])]; simp [splitA]; done)
            | false =>
              have hsc : scanP (x :: s.drop (i + 1)) = if (x :: s.drop (i + 1)).take (signN (x :: s.drop (i + 1))) == [] then .error 2 else .ok (5, (x :: s.drop (i + 1)).take (signN (x :: s.drop (i + 1)))) := by rw [scanP, if_neg hnlu, if_neg (by simp [hdg])]
              have hsk := r3_sign_ok (x :: s.drop (i + 1)) σ1 (by simp)
              have hwn := hw0 (signN (x :: s.drop (i + 1))) hsl2
              have htl : ((x :: s.drop (i + 1)).take (signN (x :: s.drop (i + 1)))).length = signN (x :: s.drop (i + 1)) := by rw [List.length_take, hsl]; omega
              generalize signN (x :: s.drop (i + 1)) = m at hsc hsk hwn hsg hsl2 htl
              generalize ((x :: s.drop (i + 1)).take m) = w at hsc hsg htl
              have hz : ((m : Int) == 0) = (w == []) := by
                rw [Bool.eq_iff_iff]; simp only [beq_iff_eq]
                rw [← List.length_eq_zero_iff, htl]; omega
              cases hw : (w == []) with
              | true =>
                (repeat' (first|refine Run.ct rfl ?_|((first|refine Run.reg mixed ?_|refine Run.condM ?_|(refine Run.retP g_r3_Split ho.le ?_)|refine XCall.det (r3_lower_ok _ _) ?_|refine XCall.det (r3_upper_ok _ _) ?_|refine XCall.det (r3_digit_ok _ _) ?_|refine XCall.det (hsk) ?_|(refine xo_gs rfl (fun h => ?_) (fun h => ?_) <;> try (cases h; done))) <;> try simp -implicitDefEqProofs only [lt_t hlt, sidx_at hx, h9, h10, h13, h32, u8eq35, hc, hss, hwn, hsg, hlu.1, hlu.2, hdg, hz, hw, ho.lpOf, Bool.false_eq_true, go_sem, Nat.reduceEqDiff, Nat.reduceBEq, Nat.reduceAdd, Nat.reduceLeDiff, reduceIte, reduceCtorEq])|(refine ⟨fun h => ?_, fun h => ?_⟩ <;> first|(cases h; done)|try simp only [h])|fail))
                rw [fail 2 (by rw [hsc, if_pos hw])]; simp [splitA]
              | false =>
                (repeat' (first|refine Run.ct rfl ?_|((first|refine Run.reg mixed ?_|refine Run.condM ?_|(refine XApp.own ho rfl (by simp) (by simp; omega) (by decide) (fun v2 σ2 ho2 hbk => ?_))|(refine Run.retP g_r3_Split ho.le ?_)|refine XCall.det (r3_lower_ok _ _) ?_|refine XCall.det (r3_upper_ok _ _) ?_|refine XCall.det (r3_digit_ok _ _) ?_|refine XCall.det (hsk) ?_|(refine xo_gs rfl (fun h => ?_) (fun h => ?_) <;> try (cases h; done))) <;> try simp -implicitDefEqProofs only [lt_t hlt, sidx_at hx, h9, h10, h13, h32, u8eq35, hc, hss, hwn, hsg, hlu.1, hlu.2, hdg, hz, hw, ho.lpOf, Bool.false_eq_true, go_sem, Nat.reduceEqDiff, Nat.reduceBEq, Nat.reduceAdd, Nat.reduceLeDiff, reduceIte, reduceCtorEq])|(refine ⟨fun h => ?_, fun h => ?_⟩ <;> first|(cases h; done)|try simp only [h])|fail))
                obtain ⟨p1, p2, p3⟩ := next 5 w _ _ (by rw [hsc, if_neg (by simp [hw])]) ‹_›
                rw [htl] at p1 p2 p3
                exact ih (i + m, _, _) p3 (by simp only; omega)
    · have hge : i = s.length := by omega
      rw [hge, List.drop_length, splGo] at hs
      (repeat' (first|refine Run.ct rfl ?_|((first|refine Run.reg mixed ?_|refine Run.condM ?_|(refine XApp.own ho rfl (by simp) (by simp; omega) (by decide) (fun v2 σ2 ho2 hbk => ?_))|(refine Run.retP g_r3_Split ho2.le ?_)|(refine xo_gs rfl (fun h => ?_) (fun h => ?_) <;> try (cases h; done))) <;> try simp -implicitDefEqProofs only [lt_f hlt, go_sem, Nat.reduceEqDiff, Nat.reduceBEq, Nat.reduceAdd, Nat.reduceLeDiff, reduceIte, reduceCtorEq])|(refine ⟨fun h => ?_, fun h => ?_⟩ <;> first|(cases h; done)|try simp only [h])|fail))
      simp -implicitDefEqProofs only [ho2.noLp, ho2.plain, go_sem, Nat.reduceEqDiff, Nat.reduceBEq, Nat.reduceAdd, Nat.reduceLeDiff, reduceIte, reduceCtorEq]
      rw [hs]; simp [splitA, Tok.enc]
end Go.Ab
