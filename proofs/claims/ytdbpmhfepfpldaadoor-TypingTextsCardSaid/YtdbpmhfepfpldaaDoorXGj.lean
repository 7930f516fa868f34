/- The reference's text of a form. Conditions: none. -/
import Derived.Test.YtdbpmhfepfpldaaDoorXGg
set_option linter.unusedSimpArgs false
set_option linter.unusedVariables false
namespace Go.Ab
open Go.Proofs

theorem XPv.strAdd {K : Kont} {F : Fm} {L : Lm} {σ : Heap} {d : Nat} {a b : List UInt8} (h : a.length + b.length ≤ 1000000000) (hk : K (put d (.d (.str (a ++ b))) F) L σ) : XPv (strA .add a b) (some d) K F L σ := by
  rw [strA_add h]; exact hk

theorem digit_tmod (n : Nat) : ((n : Int).tmod 10) = ((n % 10 : Nat) : Int) := by rw [Int.tmod_eq_emod_of_nonneg (by omega)]; omega
theorem digit_tdiv (n : Nat) : ((n : Int).tdiv 10) = ((n / 10 : Nat) : Int) := by rw [Int.tdiv_eq_ediv_of_nonneg (by omega)]; omega
theorem digit_w (n : Nat) : IntKind.i64.wrap (48 + ((n % 10 : Nat) : Int)) = ((48 + n % 10 : Nat) : Int) := by rw [wrap_pos (by omega) (by omega)]; omega
theorem u8_wrap {n : Nat} (h : n < 256) : IntKind.u8.wrap (n : Int) = (n : Int) := by
  unfold IntKind.wrap
  simp only [IntKind.signed, IntKind.bits]
  simp
  omega
theorem byte_one {n : Nat} (h : n < 256) : bytesOf [[.int .u8 (n : Int)]] = some [UInt8.ofNat n] := by
  have h1 : (0 : Int) ≤ (n : Int) ∧ (n : Int) < 256 := by omega
  simp [bytesOf, byteOf, h1]

def preD (m : Nat) : List UInt8 := if m = 0 then [] else Lib.decDigits m
theorem dec_step (n : Nat) : Lib.decDigits n = preD (n / 10) ++ [UInt8.ofNat (48 + n % 10)] := by
  unfold preD
  rw [Lib.decDigits]
  split
  · rename_i h
    rw [if_pos (by omega), Nat.mod_eq_of_lt h]; rfl
  · rename_i h
    rw [if_neg (by omega)]
theorem preD_step {n : Nat} (h : 0 < n) : preD n = preD (n / 10) ++ [UInt8.ofNat (48 + n % 10)] := by
  rw [← dec_step, preD, if_neg (by omega)]

theorem r19_number_ok (n : Nat) (σ : Heap) (hn : n ≤ 1000000000000) : ACalls Tryd.prog 56 [.d (.int .i64 n)] σ (fun v σ' => v = .d (.str (Lib.decDigits n)) ∧ σ' = σ) := by
  refine i_r19_number (by simp) ?_
  rw [argF_1]
  have h10 : ((10 : Int) = 0) = False := by simp
  have hlen : (Lib.decDigits n).length ≤ 21 := by
    rw [← Lib.itoa_nonneg]; exact Lib.itoa_length_le _ (by omega) (by omega)
  have hw10 : ∀ m : Nat, m ≤ n → IntKind.i64.wrap ((m / 10 : Nat) : Int) = ((m / 10 : Nat) : Int) := fun m hm => wrap_pos (by omega) (by omega)
  (repeat' (first
      | refine Run.seq ?_
      | refine Run.skip ?_
      | refine Run.block ?_
      | refine Run.blk ?_
      | refine Run.scope ?_
      | refine Run.scp ?_
      | (refine Run.exit rfl ?_)
      | (refine Run.reg mixed ?_; simp -implicitDefEqProofs only [h10, digit_tmod, digit_w, u8_wrap (show 48 + n % 10 < 256 by omega), byte_one (show 48 + n % 10 < 256 by omega), digit_tdiv, hw10 n (Nat.le_refl n), rs_r19_number, Bool.not_eq_true', Bool.not_eq_false', go_sem, eq_self, Nat.reduceEqDiff, Nat.reduceBEq, Nat.reduceAdd, Nat.reduceLeDiff, reduceIte, reduceCtorEq, tysA, tyA, Ty.enc, Ty.encs])
      | (refine Run.condM ?_; simp -implicitDefEqProofs only [h10, digit_tmod, digit_w, u8_wrap (show 48 + n % 10 < 256 by omega), byte_one (show 48 + n % 10 < 256 by omega), digit_tdiv, hw10 n (Nat.le_refl n), rs_r19_number, Bool.not_eq_true', Bool.not_eq_false', go_sem, eq_self, Nat.reduceEqDiff, Nat.reduceBEq, Nat.reduceAdd, Nat.reduceLeDiff, reduceIte, reduceCtorEq, tysA, tyA, Ty.enc, Ty.encs])
      | (refine xo_gs rfl (fun h => ?_) (fun h => ?_) <;> first | (cases h; done) | simp -implicitDefEqProofs only [h10, digit_tmod, digit_w, u8_wrap (show 48 + n % 10 < 256 by omega), byte_one (show 48 + n % 10 < 256 by omega), digit_tdiv, hw10 n (Nat.le_refl n), rs_r19_number, Bool.not_eq_true', Bool.not_eq_false', go_sem, eq_self, Nat.reduceEqDiff, Nat.reduceBEq, Nat.reduceAdd, Nat.reduceLeDiff, reduceIte, reduceCtorEq, tysA, tyA, Ty.enc, Ty.encs])
      | (refine ⟨fun h => ?_, fun h => ?_⟩ <;> first | (cases h; done) | (simp -implicitDefEqProofs only [h]; done) | (try simp -implicitDefEqProofs only [h]))
      | fail))
  refine Run.loopA ?_
  refine Run.loopI (fun (y : Nat × List UInt8) => put 0 (.d (.int .i64 y.1)) (put 3 (.d (.str y.2)) U)) (fun _ => E) (fun _ => σ) (fun y => y.1 ≤ n ∧ Lib.decDigits n = preD y.1 ++ y.2) (fun y => y.1) ?_ (n / 10, [UInt8.ofNat (48 + n % 10)]) ⟨by simp only; omega, dec_step n⟩
  rintro ⟨m, s⟩ ⟨hm, hs⟩ ih
  simp only at hm hs
  have hsl : s.length ≤ 21 := by
    have := congrArg List.length hs
    rw [List.length_append] at this; omega
  by_cases h0 : 0 < m
  · have hd : decide ((0 : Int) < (m : Int)) = true := by simpa using h0
    (repeat' (first
      | refine Run.seq ?_
      | refine Run.skip ?_
      | refine Run.block ?_
      | refine Run.blk ?_
      | refine Run.scope ?_
      | refine Run.scp ?_
      | (refine Run.exit rfl ?_)
      | (refine Run.reg mixed ?_; simp -implicitDefEqProofs only [hd, h10, digit_tmod, digit_w, u8_wrap (show 48 + m % 10 < 256 by omega), byte_one (show 48 + m % 10 < 256 by omega), digit_tdiv, hw10 m hm, rs_r19_number, Bool.not_eq_true', Bool.not_eq_false', go_sem, eq_self, Nat.reduceEqDiff, Nat.reduceBEq, Nat.reduceAdd, Nat.reduceLeDiff, reduceIte, reduceCtorEq, tysA, tyA, Ty.enc, Ty.encs])
      | (refine Run.condM ?_; simp -implicitDefEqProofs only [hd, h10, digit_tmod, digit_w, u8_wrap (show 48 + m % 10 < 256 by omega), byte_one (show 48 + m % 10 < 256 by omega), digit_tdiv, hw10 m hm, rs_r19_number, Bool.not_eq_true', Bool.not_eq_false', go_sem, eq_self, Nat.reduceEqDiff, Nat.reduceBEq, Nat.reduceAdd, Nat.reduceLeDiff, reduceIte, reduceCtorEq, tysA, tyA, Ty.enc, Ty.encs])
      | (refine XPv.strAdd (by (try simp only [List.length_append, List.length_cons, List.length_nil]); omega) ?_; (try simp -implicitDefEqProofs only [hd, h10, digit_tmod, digit_w, u8_wrap (show 48 + m % 10 < 256 by omega), byte_one (show 48 + m % 10 < 256 by omega), digit_tdiv, hw10 m hm, rs_r19_number, Bool.not_eq_true', Bool.not_eq_false', go_sem, eq_self, Nat.reduceEqDiff, Nat.reduceBEq, Nat.reduceAdd, Nat.reduceLeDiff, reduceIte, reduceCtorEq, tysA, tyA, Ty.enc, Ty.encs]))
      | (refine xo_gs rfl (fun h => ?_) (fun h => ?_) <;> first | (cases h; done) | simp -implicitDefEqProofs only [hd, h10, digit_tmod, digit_w, u8_wrap (show 48 + m % 10 < 256 by omega), byte_one (show 48 + m % 10 < 256 by omega), digit_tdiv, hw10 m hm, rs_r19_number, Bool.not_eq_true', Bool.not_eq_false', go_sem, eq_self, Nat.reduceEqDiff, Nat.reduceBEq, Nat.reduceAdd, Nat.reduceLeDiff, reduceIte, reduceCtorEq, tysA, tyA, Ty.enc, Ty.encs])
      | (refine ⟨fun h => ?_, fun h => ?_⟩ <;> first | (cases h; done) | (simp -implicitDefEqProofs only [h]; done) | (try simp -implicitDefEqProofs only [h]))
      | fail))
    refine ih (m / 10, _) ⟨by simp only; omega, ?_⟩ (by simp only; omega)
    simp only
    rw [hs, preD_step h0]; simp
  · have hd : decide ((0 : Int) < (m : Int)) = false := by simp; omega
    (repeat' (first
      | refine Run.seq ?_
      | refine Run.skip ?_
      | refine Run.block ?_
      | refine Run.blk ?_
      | refine Run.scope ?_
      | refine Run.scp ?_
      | (refine Run.exit rfl ?_)
      | (refine Run.reg mixed ?_; simp -implicitDefEqProofs only [hd, rs_r19_number, Bool.not_eq_true', Bool.not_eq_false', go_sem, eq_self, Nat.reduceEqDiff, Nat.reduceBEq, Nat.reduceAdd, Nat.reduceLeDiff, reduceIte, reduceCtorEq, tysA, tyA, Ty.enc, Ty.encs])
      | (refine Run.condM ?_; simp -implicitDefEqProofs only [hd, rs_r19_number, Bool.not_eq_true', Bool.not_eq_false', go_sem, eq_self, Nat.reduceEqDiff, Nat.reduceBEq, Nat.reduceAdd, Nat.reduceLeDiff, reduceIte, reduceCtorEq, tysA, tyA, Ty.enc, Ty.encs])
      | (refine Run.retP g_r19_number (Heap.le_refl _) ?_; simp -implicitDefEqProofs only [rs_r19_number, hd, go_sem, eq_self, Nat.reduceEqDiff, Nat.reduceBEq, Nat.reduceAdd, Nat.reduceLeDiff, reduceIte, reduceCtorEq, tysA, tyA, Ty.enc, Ty.encs])
      | (refine xo_gs rfl (fun h => ?_) (fun h => ?_) <;> first | (cases h; done) | simp -implicitDefEqProofs only [hd, rs_r19_number, Bool.not_eq_true', Bool.not_eq_false', go_sem, eq_self, Nat.reduceEqDiff, Nat.reduceBEq, Nat.reduceAdd, Nat.reduceLeDiff, reduceIte, reduceCtorEq, tysA, tyA, Ty.enc, Ty.encs])
      | (refine ⟨fun h => ?_, fun h => ?_⟩ <;> first | (cases h; done) | (simp -implicitDefEqProofs only [h]; done) | (try simp -implicitDefEqProofs only [h]))
      | fail))
    have : m = 0 := by omega
    subst this
    simpa [preD] using hs.symm

theorem itoa_nat {n : Int} (h : 0 ≤ n) : Lib.itoa n = Lib.decDigits n.toNat := by
  unfold Lib.itoa; rw [if_neg (by omega)]
theorem number_ok (n : Int) (σ : Heap) (h0 : 0 ≤ n) (h1 : n ≤ 1000000000000) : ACalls Tryd.prog 56 [.d (.int .i64 n)] σ (fun v σ' => v = .d (.str (Lib.itoa n)) ∧ σ' = σ) := by
  obtain ⟨m, rfl⟩ : ∃ m : Nat, n = m := ⟨n.toNat, by omega⟩
  rw [itoa_nat h0, Int.toNat_natCast]
  exact r19_number_ok m σ (by omega)

theorem leq_t {i n : Nat} (h : i ≤ n) : decide ((i : Int) ≤ (n : Int)) = true := by simp [h]
theorem leq_f {i n : Nat} (h : ¬ i ≤ n) : decide ((i : Int) ≤ (n : Int)) = false := by simp; omega

set_option maxHeartbeats 4000000 in
theorem r19_Format_ok (l : Ln) (σ : Heap) : ACalls Tryd.prog 25 [linA l] σ (fun v σ' => v = .d (.str (fmtP l)) ∧ σ' = σ) := by
  obtain ⟨c, ts⟩ := l
  refine i_r19_Format (by simp) ?_
  rw [argF_1, linA]
  cases hv : validP ⟨c, ts⟩ with
  | false =>
    (repeat' (first
      | refine Run.seq ?_
      | refine Run.skip ?_
      | refine Run.block ?_
      | refine Run.blk ?_
      | refine Run.scope ?_
      | refine Run.scp ?_
      | (refine Run.exit rfl ?_)
      | (refine Run.reg mixed ?_; simp -implicitDefEqProofs only [hv, rs_r19_Format, Bool.not_eq_true', Bool.not_eq_false', go_sem, eq_self, Nat.reduceEqDiff, Nat.reduceBEq, Nat.reduceAdd, Nat.reduceLeDiff, reduceIte, reduceCtorEq, tysA, tyA, Ty.enc, Ty.encs])
      | (refine Run.condM ?_; simp -implicitDefEqProofs only [hv, rs_r19_Format, Bool.not_eq_true', Bool.not_eq_false', go_sem, eq_self, Nat.reduceEqDiff, Nat.reduceBEq, Nat.reduceAdd, Nat.reduceLeDiff, reduceIte, reduceCtorEq, tysA, tyA, Ty.enc, Ty.encs])
      | (refine Run.retP g_r19_Format (Heap.le_refl _) ?_; simp -implicitDefEqProofs only [rs_r19_Format, hv, go_sem, eq_self, Nat.reduceEqDiff, Nat.reduceBEq, Nat.reduceAdd, Nat.reduceLeDiff, reduceIte, reduceCtorEq, tysA, tyA, Ty.enc, Ty.encs])
      | (refine XCall.det (r19_Valid_ok ⟨c, ts⟩ _) ?_; simp -implicitDefEqProofs only [hv, rs_r19_Format, Bool.not_eq_true', Bool.not_eq_false', go_sem, eq_self, Nat.reduceEqDiff, Nat.reduceBEq, Nat.reduceAdd, Nat.reduceLeDiff, reduceIte, reduceCtorEq, tysA, tyA, Ty.enc, Ty.encs])
      | (refine xo_gs rfl (fun h => ?_) (fun h => ?_) <;> first | (cases h; done) | simp -implicitDefEqProofs only [hv, rs_r19_Format, Bool.not_eq_true', Bool.not_eq_false', go_sem, eq_self, Nat.reduceEqDiff, Nat.reduceBEq, Nat.reduceAdd, Nat.reduceLeDiff, reduceIte, reduceCtorEq, tysA, tyA, Ty.enc, Ty.encs])
      | (refine ⟨fun h => ?_, fun h => ?_⟩ <;> first | (cases h; done) | (simp -implicitDefEqProofs only [h]; done) | (try simp -implicitDefEqProofs only [h]))
      | fail))
    simp [fmtP, hv]
  | true =>
  obtain ⟨h1, h2, h3, h4⟩ := valid_facts hv
  have h5 := valid_var hv
  simp only at h1 h2 h3 h4 h5
  (repeat' (first
      | refine Run.seq ?_
      | refine Run.skip ?_
      | refine Run.block ?_
      | refine Run.blk ?_
      | refine Run.scope ?_
      | refine Run.scp ?_
      | (refine Run.exit rfl ?_)
      | (refine Run.reg mixed ?_; simp -implicitDefEqProofs only [hv, List.length_map, rs_r19_Format, Bool.not_eq_true', Bool.not_eq_false', go_sem, eq_self, Nat.reduceEqDiff, Nat.reduceBEq, Nat.reduceAdd, Nat.reduceLeDiff, reduceIte, reduceCtorEq, tysA, tyA, Ty.enc, Ty.encs])
      | (refine Run.condM ?_; simp -implicitDefEqProofs only [hv, List.length_map, rs_r19_Format, Bool.not_eq_true', Bool.not_eq_false', go_sem, eq_self, Nat.reduceEqDiff, Nat.reduceBEq, Nat.reduceAdd, Nat.reduceLeDiff, reduceIte, reduceCtorEq, tysA, tyA, Ty.enc, Ty.encs])
      | (refine XCall.det (r19_Valid_ok ⟨c, ts⟩ _) ?_; simp -implicitDefEqProofs only [hv, List.length_map, rs_r19_Format, Bool.not_eq_true', Bool.not_eq_false', go_sem, eq_self, Nat.reduceEqDiff, Nat.reduceBEq, Nat.reduceAdd, Nat.reduceLeDiff, reduceIte, reduceCtorEq, tysA, tyA, Ty.enc, Ty.encs])
      | (refine xo_gs rfl (fun h => ?_) (fun h => ?_) <;> first | (cases h; done) | simp -implicitDefEqProofs only [hv, List.length_map, rs_r19_Format, Bool.not_eq_true', Bool.not_eq_false', go_sem, eq_self, Nat.reduceEqDiff, Nat.reduceBEq, Nat.reduceAdd, Nat.reduceLeDiff, reduceIte, reduceCtorEq, tysA, tyA, Ty.enc, Ty.encs])
      | (refine ⟨fun h => ?_, fun h => ?_⟩ <;> first | (cases h; done) | (simp -implicitDefEqProofs only [h]; done) | (try simp -implicitDefEqProofs only [h]))
      | fail))
  refine Run.loopA ?_
  refine Run.loopI ((fun (a1 : AV) => fun (y : Nat × List UInt8) => put 1 a1 (put 3 (.d (.str y.2)) (put 4 (.d (.int .i64 y.1)) U))) _) (fun y => putL 1 [.d (.int .i64 c), .d (.sl (ts.map tmR))] E) (fun _ => σ)
    (fun y => (y.1 ≤ ts.length ∧ y.2 = termsP true (ts.take y.1)) ∨ (y.1 = ts.length + 1 ∧ y.2 = fmtP ⟨c, ts⟩)) (fun y => ts.length + 1 - y.1) ?_ (0, []) (.inl ⟨by simp, rfl⟩)
  rintro ⟨i, s⟩ hinv ih
  simp only at hinv
  rcases hinv with ⟨hi, rfl⟩ | ⟨rfl, rfl⟩
  · have htl : (termsP true (ts.take i)).length ≤ 50 * i := by
      have := termsP_len (l := ts.take i) (b := true) (fun x hx => h2 x (List.mem_of_mem_take hx)) (fun x hx => h5 x (List.mem_of_mem_take hx))
      rw [List.length_take, Nat.min_eq_left hi] at this
      exact this
    have hw1 := wrap_succ (show i + 1 ≤ 9000000000000000000 by omega)
    by_cases hlt : i < ts.length
    · obtain ⟨x, hx⟩ := ex_at hlt
      have hx' := tm_at hx
      have hxm := List.mem_of_getElem? hx
      have hxb := h2 x hxm
      have hxv := h5 x hxm
      have hnz : (x.2 == 0) = false := by
        have := (valid_asc hv).2 x hxm
        simpa using this
      have hab := absI_bd hxb
      have hil := itoa_len (n := absI x.2) ⟨by omega, by omega⟩
      have hvl := itoa_len (n := x.1) ⟨by omega, by omega⟩
      have hsn := termsP_snoc (ts.take i) true x
      have htk : ts.take (i + 1) = ts.take i ++ [x] := by rw [List.take_add_one, hx]; rfl
      have hfirst : (true && (ts.take i).isEmpty) = ((i : Int) == 0) := by
        rw [Bool.eq_iff_iff]
        simp only [beq_iff_eq, Bool.true_and, List.isEmpty_iff, List.take_eq_nil_iff]
        constructor
        · rintro (h | h)
          · omega
          · rw [h] at hlt; simp at hlt
        · intro h; left; omega
      rw [← htk, hfirst] at hsn
      have hgt : decide ((0 : Int) < (i : Int)) = !((i : Int) == 0) := by
        rw [Bool.eq_iff_iff]; simp; omega
      have hng := neg_wrap hxb
      generalize termsP true (ts.take i) = s at htl hsn ih ⊢
      have fin : ∀ s' : List UInt8, s' = s ++ termP ((i : Int) == 0) x → ((i + 1 ≤ ts.length ∧ s' = termsP true (ts.take (i + 1))) ∨ (i + 1 = ts.length + 1 ∧ s' = fmtP ⟨c, ts⟩)) := fun s' h => .inl ⟨by omega, by rw [hsn]; exact h⟩
      by_cases hres : x.1 = -1
      · have hge : decide ((0 : Int) ≤ x.1) = false := by simp; omega
        by_cases hneg : x.2 < 0
        · have hai : absI x.2 = -x.2 := if_pos hneg
          rw [hai] at hab hil
          cases hi0 : ((i : Int) == 0) <;> rw [hi0] at hgt fin <;> cases hone : (-x.2 == 1)
          all_goals
            (repeat' (first
      | refine Run.seq ?_
      | refine Run.skip ?_
      | refine Run.block ?_
      | refine Run.blk ?_
      | refine Run.scope ?_
      | refine Run.scp ?_
      | (refine Run.exit rfl ?_)
      | (refine Run.reg mixed ?_; simp -implicitDefEqProofs only [leq_t hi, lt_t hlt, hx', hw1, hge, decide_eq_true hneg, hi0, hgt, hng, hone, strA_eql, List.length_map, rs_r19_Format, Bool.not_eq_true', Bool.not_eq_false', go_sem, eq_self, Nat.reduceEqDiff, Nat.reduceBEq, Nat.reduceAdd, Nat.reduceLeDiff, reduceIte, reduceCtorEq, tysA, tyA, Ty.enc, Ty.encs])
      | (refine Run.condM ?_; simp -implicitDefEqProofs only [leq_t hi, lt_t hlt, hx', hw1, hge, decide_eq_true hneg, hi0, hgt, hng, hone, strA_eql, List.length_map, rs_r19_Format, Bool.not_eq_true', Bool.not_eq_false', go_sem, eq_self, Nat.reduceEqDiff, Nat.reduceBEq, Nat.reduceAdd, Nat.reduceLeDiff, reduceIte, reduceCtorEq, tysA, tyA, Ty.enc, Ty.encs])
      | (refine XPv.strAdd (by (try simp only [List.length_append, List.length_cons, List.length_nil]); omega) ?_; (try simp -implicitDefEqProofs only [leq_t hi, lt_t hlt, hx', hw1, hge, decide_eq_true hneg, hi0, hgt, hng, hone, strA_eql, List.length_map, rs_r19_Format, Bool.not_eq_true', Bool.not_eq_false', go_sem, eq_self, Nat.reduceEqDiff, Nat.reduceBEq, Nat.reduceAdd, Nat.reduceLeDiff, reduceIte, reduceCtorEq, tysA, tyA, Ty.enc, Ty.encs]))
      | (refine XCall.det (number_ok (-x.2) _ (by omega) (by omega)) ?_; simp -implicitDefEqProofs only [leq_t hi, lt_t hlt, hx', hw1, hge, decide_eq_true hneg, hi0, hgt, hng, hone, strA_eql, List.length_map, rs_r19_Format, Bool.not_eq_true', Bool.not_eq_false', go_sem, eq_self, Nat.reduceEqDiff, Nat.reduceBEq, Nat.reduceAdd, Nat.reduceLeDiff, reduceIte, reduceCtorEq, tysA, tyA, Ty.enc, Ty.encs])
      | (refine xo_gs rfl (fun h => ?_) (fun h => ?_) <;> first | (cases h; done) | simp -implicitDefEqProofs only [leq_t hi, lt_t hlt, hx', hw1, hge, decide_eq_true hneg, hi0, hgt, hng, hone, strA_eql, List.length_map, rs_r19_Format, Bool.not_eq_true', Bool.not_eq_false', go_sem, eq_self, Nat.reduceEqDiff, Nat.reduceBEq, Nat.reduceAdd, Nat.reduceLeDiff, reduceIte, reduceCtorEq, tysA, tyA, Ty.enc, Ty.encs])
      | (refine ⟨fun h => ?_, fun h => ?_⟩ <;> first | (cases h; done) | (simp -implicitDefEqProofs only [h]; done) | (try simp -implicitDefEqProofs only [h]))
      | fail))
            refine ih (i + 1, _) (fin _ ?_) (by simp only; omega)
            have ho : (-x.2 = 1) = (-x.2 == 1) := by simp
            simp only [termP, signP, coefP, nameP, hai, if_pos hneg, if_pos hres, ho, hone]
            simp
        · have hai : absI x.2 = x.2 := if_neg hneg
          rw [hai] at hab hil
          cases hi0 : ((i : Int) == 0) <;> rw [hi0] at hgt fin <;> cases hone : (x.2 == 1)
          all_goals
            (repeat' (first
      | refine Run.seq ?_
      | refine Run.skip ?_
      | refine Run.block ?_
      | refine Run.blk ?_
      | refine Run.scope ?_
      | refine Run.scp ?_
      | (refine Run.exit rfl ?_)
      | (refine Run.reg mixed ?_; simp -implicitDefEqProofs only [leq_t hi, lt_t hlt, hx', hw1, hge, decide_eq_false hneg, hi0, hgt, hone, strA_eql, List.length_map, rs_r19_Format, Bool.not_eq_true', Bool.not_eq_false', go_sem, eq_self, Nat.reduceEqDiff, Nat.reduceBEq, Nat.reduceAdd, Nat.reduceLeDiff, reduceIte, reduceCtorEq, tysA, tyA, Ty.enc, Ty.encs])
      | (refine Run.condM ?_; simp -implicitDefEqProofs only [leq_t hi, lt_t hlt, hx', hw1, hge, decide_eq_false hneg, hi0, hgt, hone, strA_eql, List.length_map, rs_r19_Format, Bool.not_eq_true', Bool.not_eq_false', go_sem, eq_self, Nat.reduceEqDiff, Nat.reduceBEq, Nat.reduceAdd, Nat.reduceLeDiff, reduceIte, reduceCtorEq, tysA, tyA, Ty.enc, Ty.encs])
      | (refine XPv.strAdd (by (try simp only [List.length_append, List.length_cons, List.length_nil]); omega) ?_; (try simp -implicitDefEqProofs only [leq_t hi, lt_t hlt, hx', hw1, hge, decide_eq_false hneg, hi0, hgt, hone, strA_eql, List.length_map, rs_r19_Format, Bool.not_eq_true', Bool.not_eq_false', go_sem, eq_self, Nat.reduceEqDiff, Nat.reduceBEq, Nat.reduceAdd, Nat.reduceLeDiff, reduceIte, reduceCtorEq, tysA, tyA, Ty.enc, Ty.encs]))
      | (refine XCall.det (number_ok x.2 _ (by omega) (by omega)) ?_; simp -implicitDefEqProofs only [leq_t hi, lt_t hlt, hx', hw1, hge, decide_eq_false hneg, hi0, hgt, hone, strA_eql, List.length_map, rs_r19_Format, Bool.not_eq_true', Bool.not_eq_false', go_sem, eq_self, Nat.reduceEqDiff, Nat.reduceBEq, Nat.reduceAdd, Nat.reduceLeDiff, reduceIte, reduceCtorEq, tysA, tyA, Ty.enc, Ty.encs])
      | (refine xo_gs rfl (fun h => ?_) (fun h => ?_) <;> first | (cases h; done) | simp -implicitDefEqProofs only [leq_t hi, lt_t hlt, hx', hw1, hge, decide_eq_false hneg, hi0, hgt, hone, strA_eql, List.length_map, rs_r19_Format, Bool.not_eq_true', Bool.not_eq_false', go_sem, eq_self, Nat.reduceEqDiff, Nat.reduceBEq, Nat.reduceAdd, Nat.reduceLeDiff, reduceIte, reduceCtorEq, tysA, tyA, Ty.enc, Ty.encs])
      | (refine ⟨fun h => ?_, fun h => ?_⟩ <;> first | (cases h; done) | (simp -implicitDefEqProofs only [h]; done) | (try simp -implicitDefEqProofs only [h]))
      | fail))
            refine ih (i + 1, _) (fin _ ?_) (by simp only; omega)
            have ho : (x.2 = 1) = (x.2 == 1) := by simp
            simp only [termP, signP, coefP, nameP, hai, if_neg hneg, if_pos hres, ho, hone]
            simp
      · have hge : decide ((0 : Int) ≤ x.1) = true := by simp; omega
        by_cases hneg : x.2 < 0
        · have hai : absI x.2 = -x.2 := if_pos hneg
          rw [hai] at hab hil
          cases hi0 : ((i : Int) == 0) <;> rw [hi0] at hgt fin <;> cases hone : (-x.2 == 1)
          all_goals
            (repeat' (first
      | refine Run.seq ?_
      | refine Run.skip ?_
      | refine Run.block ?_
      | refine Run.blk ?_
      | refine Run.scope ?_
      | refine Run.scp ?_
      | (refine Run.exit rfl ?_)
      | (refine Run.reg mixed ?_; simp -implicitDefEqProofs only [leq_t hi, lt_t hlt, hx', hw1, hge, decide_eq_true hneg, hi0, hgt, hng, hone, strA_eql, List.length_map, rs_r19_Format, Bool.not_eq_true', Bool.not_eq_false', go_sem, eq_self, Nat.reduceEqDiff, Nat.reduceBEq, Nat.reduceAdd, Nat.reduceLeDiff, reduceIte, reduceCtorEq, tysA, tyA, Ty.enc, Ty.encs])
      | (refine Run.condM ?_; simp -implicitDefEqProofs only [leq_t hi, lt_t hlt, hx', hw1, hge, decide_eq_true hneg, hi0, hgt, hng, hone, strA_eql, List.length_map, rs_r19_Format, Bool.not_eq_true', Bool.not_eq_false', go_sem, eq_self, Nat.reduceEqDiff, Nat.reduceBEq, Nat.reduceAdd, Nat.reduceLeDiff, reduceIte, reduceCtorEq, tysA, tyA, Ty.enc, Ty.encs])
      | (refine XPv.strAdd (by (try simp only [List.length_append, List.length_cons, List.length_nil]); omega) ?_; (try simp -implicitDefEqProofs only [leq_t hi, lt_t hlt, hx', hw1, hge, decide_eq_true hneg, hi0, hgt, hng, hone, strA_eql, List.length_map, rs_r19_Format, Bool.not_eq_true', Bool.not_eq_false', go_sem, eq_self, Nat.reduceEqDiff, Nat.reduceBEq, Nat.reduceAdd, Nat.reduceLeDiff, reduceIte, reduceCtorEq, tysA, tyA, Ty.enc, Ty.encs]))
      | (refine XCall.det (number_ok (-x.2) _ (by omega) (by omega)) ?_; simp -implicitDefEqProofs only [leq_t hi, lt_t hlt, hx', hw1, hge, decide_eq_true hneg, hi0, hgt, hng, hone, strA_eql, List.length_map, rs_r19_Format, Bool.not_eq_true', Bool.not_eq_false', go_sem, eq_self, Nat.reduceEqDiff, Nat.reduceBEq, Nat.reduceAdd, Nat.reduceLeDiff, reduceIte, reduceCtorEq, tysA, tyA, Ty.enc, Ty.encs])
      | (refine XCall.det (number_ok x.1 _ (by omega) (by omega)) ?_; simp -implicitDefEqProofs only [leq_t hi, lt_t hlt, hx', hw1, hge, decide_eq_true hneg, hi0, hgt, hng, hone, strA_eql, List.length_map, rs_r19_Format, Bool.not_eq_true', Bool.not_eq_false', go_sem, eq_self, Nat.reduceEqDiff, Nat.reduceBEq, Nat.reduceAdd, Nat.reduceLeDiff, reduceIte, reduceCtorEq, tysA, tyA, Ty.enc, Ty.encs])
      | (refine xo_gs rfl (fun h => ?_) (fun h => ?_) <;> first | (cases h; done) | simp -implicitDefEqProofs only [leq_t hi, lt_t hlt, hx', hw1, hge, decide_eq_true hneg, hi0, hgt, hng, hone, strA_eql, List.length_map, rs_r19_Format, Bool.not_eq_true', Bool.not_eq_false', go_sem, eq_self, Nat.reduceEqDiff, Nat.reduceBEq, Nat.reduceAdd, Nat.reduceLeDiff, reduceIte, reduceCtorEq, tysA, tyA, Ty.enc, Ty.encs])
      | (refine ⟨fun h => ?_, fun h => ?_⟩ <;> first | (cases h; done) | (simp -implicitDefEqProofs only [h]; done) | (try simp -implicitDefEqProofs only [h]))
      | fail))
            refine ih (i + 1, _) (fin _ ?_) (by simp only; omega)
            have ho : (-x.2 = 1) = (-x.2 == 1) := by simp
            simp only [termP, signP, coefP, nameP, hai, if_pos hneg, if_neg hres, ho, hone]
            simp
        · have hai : absI x.2 = x.2 := if_neg hneg
          rw [hai] at hab hil
          cases hi0 : ((i : Int) == 0) <;> rw [hi0] at hgt fin <;> cases hone : (x.2 == 1)
          all_goals
            (repeat' (first
      | refine Run.seq ?_
      | refine Run.skip ?_
      | refine Run.block ?_
      | refine Run.blk ?_
      | refine Run.scope ?_
      | refine Run.scp ?_
      | (refine Run.exit rfl ?_)
      | (refine Run.reg mixed ?_; simp -implicitDefEqProofs only [leq_t hi, lt_t hlt, hx', hw1, hge, decide_eq_false hneg, hi0, hgt, hone, strA_eql, List.length_map, rs_r19_Format, Bool.not_eq_true', Bool.not_eq_false', go_sem, eq_self, Nat.reduceEqDiff, Nat.reduceBEq, Nat.reduceAdd, Nat.reduceLeDiff, reduceIte, reduceCtorEq, tysA, tyA, Ty.enc, Ty.encs])
      | (refine Run.condM ?_; simp -implicitDefEqProofs only [leq_t hi, lt_t hlt, hx', hw1, hge, decide_eq_false hneg, hi0, hgt, hone, strA_eql, List.length_map, rs_r19_Format, Bool.not_eq_true', Bool.not_eq_false', go_sem, eq_self, Nat.reduceEqDiff, Nat.reduceBEq, Nat.reduceAdd, Nat.reduceLeDiff, reduceIte, reduceCtorEq, tysA, tyA, Ty.enc, Ty.encs])
      | (refine XPv.strAdd (by (try simp only [List.length_append, List.length_cons, List.length_nil]); omega) ?_; (try simp -implicitDefEqProofs only [leq_t hi, lt_t hlt, hx', hw1, hge, decide_eq_false hneg, hi0, hgt, hone, strA_eql, List.length_map, rs_r19_Format, Bool.not_eq_true', Bool.not_eq_false', go_sem, eq_self, Nat.reduceEqDiff, Nat.reduceBEq, Nat.reduceAdd, Nat.reduceLeDiff, reduceIte, reduceCtorEq, tysA, tyA, Ty.enc, Ty.encs]))
      | (refine XCall.det (number_ok x.2 _ (by omega) (by omega)) ?_; simp -implicitDefEqProofs only [leq_t hi, lt_t hlt, hx', hw1, hge, decide_eq_false hneg, hi0, hgt, hone, strA_eql, List.length_map, rs_r19_Format, Bool.not_eq_true', Bool.not_eq_false', go_sem, eq_self, Nat.reduceEqDiff, Nat.reduceBEq, Nat.reduceAdd, Nat.reduceLeDiff, reduceIte, reduceCtorEq, tysA, tyA, Ty.enc, Ty.encs])
      | (refine XCall.det (number_ok x.1 _ (by omega) (by omega)) ?_; simp -implicitDefEqProofs only [leq_t hi, lt_t hlt, hx', hw1, hge, decide_eq_false hneg, hi0, hgt, hone, strA_eql, List.length_map, rs_r19_Format, Bool.not_eq_true', Bool.not_eq_false', go_sem, eq_self, Nat.reduceEqDiff, Nat.reduceBEq, Nat.reduceAdd, Nat.reduceLeDiff, reduceIte, reduceCtorEq, tysA, tyA, Ty.enc, Ty.encs])
      | (refine xo_gs rfl (fun h => ?_) (fun h => ?_) <;> first | (cases h; done) | simp -implicitDefEqProofs only [leq_t hi, lt_t hlt, hx', hw1, hge, decide_eq_false hneg, hi0, hgt, hone, strA_eql, List.length_map, rs_r19_Format, Bool.not_eq_true', Bool.not_eq_false', go_sem, eq_self, Nat.reduceEqDiff, Nat.reduceBEq, Nat.reduceAdd, Nat.reduceLeDiff, reduceIte, reduceCtorEq, tysA, tyA, Ty.enc, Ty.encs])
      | (refine ⟨fun h => ?_, fun h => ?_⟩ <;> first | (cases h; done) | (simp -implicitDefEqProofs only [h]; done) | (try simp -implicitDefEqProofs only [h]))
      | fail))
            refine ih (i + 1, _) (fin _ ?_) (by simp only; omega)
            have ho : (x.2 = 1) = (x.2 == 1) := by simp
            simp only [termP, signP, coefP, nameP, hai, if_neg hneg, if_neg hres, ho, hone]
            simp
    · have hil : i = ts.length := by omega
      have hgt : decide ((0 : Int) < (i : Int)) = !ts.isEmpty := by
        rw [Bool.eq_iff_iff]
        simp only [decide_eq_true_eq, Bool.not_eq_true', List.isEmpty_eq_false_iff]
        rw [← List.length_pos_iff]; omega
      have hi0 : ((i : Int) == 0) = ts.isEmpty := by
        rw [Bool.eq_iff_iff]
        simp only [beq_iff_eq, List.isEmpty_iff]
        rw [← List.length_eq_zero_iff]; omega
      rw [List.take_of_length_le (by omega)] at htl
      rw [List.take_of_length_le (by omega)]
      have hab := absI_bd ⟨h3, h4⟩
      have hcl := itoa_len (n := absI c) ⟨by omega, by omega⟩
      have hng := neg_wrap ⟨h3, h4⟩
      have hfm : fmtP ⟨c, ts⟩ = termsP true ts ++ constPart ⟨c, ts⟩ := by simp only [fmtP, hv, if_true]
      have hil1 : i + 1 = ts.length + 1 := by omega
      cases hte : ts.isEmpty with
      | true =>
        have hts : ts = [] := by simpa using hte
        rw [hte] at hgt hi0
        by_cases hneg : c < 0
        · have hai : absI c = -c := if_pos hneg
          rw [hai] at hab hcl
          have hc0 : (c == 0) = false := by simp; omega
          (repeat' (first
      | refine Run.seq ?_
      | refine Run.skip ?_
      | refine Run.block ?_
      | refine Run.blk ?_
      | refine Run.scope ?_
      | refine Run.scp ?_
      | (refine Run.exit rfl ?_)
      | (refine Run.reg mixed ?_; simp -implicitDefEqProofs only [leq_t hi, lt_f hlt, hw1, hgt, hi0, hc0, hng, decide_eq_true hneg, strA_eql, List.length_map, BEq.rfl, rs_r19_Format, Bool.not_eq_true', Bool.not_eq_false', go_sem, eq_self, Nat.reduceEqDiff, Nat.reduceBEq, Nat.reduceAdd, Nat.reduceLeDiff, reduceIte, reduceCtorEq, tysA, tyA, Ty.enc, Ty.encs])
      | (refine Run.condM ?_; simp -implicitDefEqProofs only [leq_t hi, lt_f hlt, hw1, hgt, hi0, hc0, hng, decide_eq_true hneg, strA_eql, List.length_map, BEq.rfl, rs_r19_Format, Bool.not_eq_true', Bool.not_eq_false', go_sem, eq_self, Nat.reduceEqDiff, Nat.reduceBEq, Nat.reduceAdd, Nat.reduceLeDiff, reduceIte, reduceCtorEq, tysA, tyA, Ty.enc, Ty.encs])
      | (refine XPv.strAdd (by (try simp only [List.length_append, List.length_cons, List.length_nil]); omega) ?_; (try simp -implicitDefEqProofs only [leq_t hi, lt_f hlt, hw1, hgt, hi0, hc0, hng, decide_eq_true hneg, strA_eql, List.length_map, BEq.rfl, rs_r19_Format, Bool.not_eq_true', Bool.not_eq_false', go_sem, eq_self, Nat.reduceEqDiff, Nat.reduceBEq, Nat.reduceAdd, Nat.reduceLeDiff, reduceIte, reduceCtorEq, tysA, tyA, Ty.enc, Ty.encs]))
      | (refine XCall.det (number_ok (-c) _ (by omega) (by omega)) ?_; simp -implicitDefEqProofs only [leq_t hi, lt_f hlt, hw1, hgt, hi0, hc0, hng, decide_eq_true hneg, strA_eql, List.length_map, BEq.rfl, rs_r19_Format, Bool.not_eq_true', Bool.not_eq_false', go_sem, eq_self, Nat.reduceEqDiff, Nat.reduceBEq, Nat.reduceAdd, Nat.reduceLeDiff, reduceIte, reduceCtorEq, tysA, tyA, Ty.enc, Ty.encs])
      | (refine xo_gs rfl (fun h => ?_) (fun h => ?_) <;> first | (cases h; done) | simp -implicitDefEqProofs only [leq_t hi, lt_f hlt, hw1, hgt, hi0, hc0, hng, decide_eq_true hneg, strA_eql, List.length_map, BEq.rfl, rs_r19_Format, Bool.not_eq_true', Bool.not_eq_false', go_sem, eq_self, Nat.reduceEqDiff, Nat.reduceBEq, Nat.reduceAdd, Nat.reduceLeDiff, reduceIte, reduceCtorEq, tysA, tyA, Ty.enc, Ty.encs])
      | (refine ⟨fun h => ?_, fun h => ?_⟩ <;> first | (cases h; done) | (simp -implicitDefEqProofs only [h]; done) | (try simp -implicitDefEqProofs only [h]))
      | fail))
          refine ih (i + 1, _) (.inr ⟨hil1, ?_⟩) (by simp only; omega)
          rw [hfm, constPart, if_neg (by simp only [hts]; simp), signP, if_pos hneg, hte, if_pos rfl, hai, List.append_assoc]
        · have hai : absI c = c := if_neg hneg
          rw [hai] at hab hcl
          cases hc0 : (c == 0)
          all_goals
            (repeat' (first
      | refine Run.seq ?_
      | refine Run.skip ?_
      | refine Run.block ?_
      | refine Run.blk ?_
      | refine Run.scope ?_
      | refine Run.scp ?_
      | (refine Run.exit rfl ?_)
      | (refine Run.reg mixed ?_; simp -implicitDefEqProofs only [leq_t hi, lt_f hlt, hw1, hgt, hi0, hc0, decide_eq_false hneg, strA_eql, List.length_map, BEq.rfl, rs_r19_Format, Bool.not_eq_true', Bool.not_eq_false', go_sem, eq_self, Nat.reduceEqDiff, Nat.reduceBEq, Nat.reduceAdd, Nat.reduceLeDiff, reduceIte, reduceCtorEq, tysA, tyA, Ty.enc, Ty.encs])
      | (refine Run.condM ?_; simp -implicitDefEqProofs only [leq_t hi, lt_f hlt, hw1, hgt, hi0, hc0, decide_eq_false hneg, strA_eql, List.length_map, BEq.rfl, rs_r19_Format, Bool.not_eq_true', Bool.not_eq_false', go_sem, eq_self, Nat.reduceEqDiff, Nat.reduceBEq, Nat.reduceAdd, Nat.reduceLeDiff, reduceIte, reduceCtorEq, tysA, tyA, Ty.enc, Ty.encs])
      | (refine XPv.strAdd (by (try simp only [List.length_append, List.length_cons, List.length_nil]); omega) ?_; (try simp -implicitDefEqProofs only [leq_t hi, lt_f hlt, hw1, hgt, hi0, hc0, decide_eq_false hneg, strA_eql, List.length_map, BEq.rfl, rs_r19_Format, Bool.not_eq_true', Bool.not_eq_false', go_sem, eq_self, Nat.reduceEqDiff, Nat.reduceBEq, Nat.reduceAdd, Nat.reduceLeDiff, reduceIte, reduceCtorEq, tysA, tyA, Ty.enc, Ty.encs]))
      | (refine XCall.det (number_ok c _ (by omega) (by omega)) ?_; simp -implicitDefEqProofs only [leq_t hi, lt_f hlt, hw1, hgt, hi0, hc0, decide_eq_false hneg, strA_eql, List.length_map, BEq.rfl, rs_r19_Format, Bool.not_eq_true', Bool.not_eq_false', go_sem, eq_self, Nat.reduceEqDiff, Nat.reduceBEq, Nat.reduceAdd, Nat.reduceLeDiff, reduceIte, reduceCtorEq, tysA, tyA, Ty.enc, Ty.encs])
      | (refine xo_gs rfl (fun h => ?_) (fun h => ?_) <;> first | (cases h; done) | simp -implicitDefEqProofs only [leq_t hi, lt_f hlt, hw1, hgt, hi0, hc0, decide_eq_false hneg, strA_eql, List.length_map, BEq.rfl, rs_r19_Format, Bool.not_eq_true', Bool.not_eq_false', go_sem, eq_self, Nat.reduceEqDiff, Nat.reduceBEq, Nat.reduceAdd, Nat.reduceLeDiff, reduceIte, reduceCtorEq, tysA, tyA, Ty.enc, Ty.encs])
      | (refine ⟨fun h => ?_, fun h => ?_⟩ <;> first | (cases h; done) | (simp -implicitDefEqProofs only [h]; done) | (try simp -implicitDefEqProofs only [h]))
      | fail))
            refine ih (i + 1, _) (.inr ⟨hil1, ?_⟩) (by simp only; omega)
            rw [hfm, constPart, if_neg (by simp only [hts]; simp), signP, if_neg hneg, hte, if_pos rfl, hai]
            simp
      | false =>
        have hts : ts ≠ [] := by simpa using hte
        rw [hte] at hgt hi0
        by_cases hneg : c < 0
        · have hai : absI c = -c := if_pos hneg
          rw [hai] at hab hcl
          have hc0 : (c == 0) = false := by simp; omega
          have hc0' : c ≠ 0 := by omega
          (repeat' (first
      | refine Run.seq ?_
      | refine Run.skip ?_
      | refine Run.block ?_
      | refine Run.blk ?_
      | refine Run.scope ?_
      | refine Run.scp ?_
      | (refine Run.exit rfl ?_)
      | (refine Run.reg mixed ?_; simp -implicitDefEqProofs only [leq_t hi, lt_f hlt, hw1, hgt, hi0, hc0, hng, decide_eq_true hneg, strA_eql, List.length_map, BEq.rfl, rs_r19_Format, Bool.not_eq_true', Bool.not_eq_false', go_sem, eq_self, Nat.reduceEqDiff, Nat.reduceBEq, Nat.reduceAdd, Nat.reduceLeDiff, reduceIte, reduceCtorEq, tysA, tyA, Ty.enc, Ty.encs])
      | (refine Run.condM ?_; simp -implicitDefEqProofs only [leq_t hi, lt_f hlt, hw1, hgt, hi0, hc0, hng, decide_eq_true hneg, strA_eql, List.length_map, BEq.rfl, rs_r19_Format, Bool.not_eq_true', Bool.not_eq_false', go_sem, eq_self, Nat.reduceEqDiff, Nat.reduceBEq, Nat.reduceAdd, Nat.reduceLeDiff, reduceIte, reduceCtorEq, tysA, tyA, Ty.enc, Ty.encs])
      | (refine XPv.strAdd (by (try simp only [List.length_append, List.length_cons, List.length_nil]); omega) ?_; (try simp -implicitDefEqProofs only [leq_t hi, lt_f hlt, hw1, hgt, hi0, hc0, hng, decide_eq_true hneg, strA_eql, List.length_map, BEq.rfl, rs_r19_Format, Bool.not_eq_true', Bool.not_eq_false', go_sem, eq_self, Nat.reduceEqDiff, Nat.reduceBEq, Nat.reduceAdd, Nat.reduceLeDiff, reduceIte, reduceCtorEq, tysA, tyA, Ty.enc, Ty.encs]))
      | (refine XCall.det (number_ok (-c) _ (by omega) (by omega)) ?_; simp -implicitDefEqProofs only [leq_t hi, lt_f hlt, hw1, hgt, hi0, hc0, hng, decide_eq_true hneg, strA_eql, List.length_map, BEq.rfl, rs_r19_Format, Bool.not_eq_true', Bool.not_eq_false', go_sem, eq_self, Nat.reduceEqDiff, Nat.reduceBEq, Nat.reduceAdd, Nat.reduceLeDiff, reduceIte, reduceCtorEq, tysA, tyA, Ty.enc, Ty.encs])
      | (refine xo_gs rfl (fun h => ?_) (fun h => ?_) <;> first | (cases h; done) | simp -implicitDefEqProofs only [leq_t hi, lt_f hlt, hw1, hgt, hi0, hc0, hng, decide_eq_true hneg, strA_eql, List.length_map, BEq.rfl, rs_r19_Format, Bool.not_eq_true', Bool.not_eq_false', go_sem, eq_self, Nat.reduceEqDiff, Nat.reduceBEq, Nat.reduceAdd, Nat.reduceLeDiff, reduceIte, reduceCtorEq, tysA, tyA, Ty.enc, Ty.encs])
      | (refine ⟨fun h => ?_, fun h => ?_⟩ <;> first | (cases h; done) | (simp -implicitDefEqProofs only [h]; done) | (try simp -implicitDefEqProofs only [h]))
      | fail))
          refine ih (i + 1, _) (.inr ⟨hil1, ?_⟩) (by simp only; omega)
          rw [hfm, constPart, if_neg (fun h => hc0' h.1), signP, if_pos hneg, hte, if_neg (by simp), hai, List.append_assoc]
        · have hai : absI c = c := if_neg hneg
          rw [hai] at hab hcl
          cases hc0 : (c == 0) with
          | true =>
            (repeat' (first
      | refine Run.seq ?_
      | refine Run.skip ?_
      | refine Run.block ?_
      | refine Run.blk ?_
      | refine Run.scope ?_
      | refine Run.scp ?_
      | (refine Run.exit rfl ?_)
      | (refine Run.reg mixed ?_; simp -implicitDefEqProofs only [leq_t hi, lt_f hlt, hw1, hgt, hi0, hc0, List.length_map, rs_r19_Format, Bool.not_eq_true', Bool.not_eq_false', go_sem, eq_self, Nat.reduceEqDiff, Nat.reduceBEq, Nat.reduceAdd, Nat.reduceLeDiff, reduceIte, reduceCtorEq, tysA, tyA, Ty.enc, Ty.encs])
      | (refine Run.condM ?_; simp -implicitDefEqProofs only [leq_t hi, lt_f hlt, hw1, hgt, hi0, hc0, List.length_map, rs_r19_Format, Bool.not_eq_true', Bool.not_eq_false', go_sem, eq_self, Nat.reduceEqDiff, Nat.reduceBEq, Nat.reduceAdd, Nat.reduceLeDiff, reduceIte, reduceCtorEq, tysA, tyA, Ty.enc, Ty.encs])
      | (refine Run.retP g_r19_Format (Heap.le_refl _) ?_; simp -implicitDefEqProofs only [rs_r19_Format, leq_t hi, lt_f hlt, hw1, hgt, hi0, hc0, List.length_map, go_sem, eq_self, Nat.reduceEqDiff, Nat.reduceBEq, Nat.reduceAdd, Nat.reduceLeDiff, reduceIte, reduceCtorEq, tysA, tyA, Ty.enc, Ty.encs])
      | (refine xo_gs rfl (fun h => ?_) (fun h => ?_) <;> first | (cases h; done) | simp -implicitDefEqProofs only [leq_t hi, lt_f hlt, hw1, hgt, hi0, hc0, List.length_map, rs_r19_Format, Bool.not_eq_true', Bool.not_eq_false', go_sem, eq_self, Nat.reduceEqDiff, Nat.reduceBEq, Nat.reduceAdd, Nat.reduceLeDiff, reduceIte, reduceCtorEq, tysA, tyA, Ty.enc, Ty.encs])
      | (refine ⟨fun h => ?_, fun h => ?_⟩ <;> first | (cases h; done) | (simp -implicitDefEqProofs only [h]; done) | (try simp -implicitDefEqProofs only [h]))
      | fail))
            have hc0' : c = 0 := by simpa using hc0
            rw [hfm, constPart, if_pos ⟨hc0', hts⟩, List.append_nil]
          | false =>
            have hc0' : c ≠ 0 := by simpa using hc0
            (repeat' (first
      | refine Run.seq ?_
      | refine Run.skip ?_
      | refine Run.block ?_
      | refine Run.blk ?_
      | refine Run.scope ?_
      | refine Run.scp ?_
      | (refine Run.exit rfl ?_)
      | (refine Run.reg mixed ?_; simp -implicitDefEqProofs only [leq_t hi, lt_f hlt, hw1, hgt, hi0, hc0, decide_eq_false hneg, strA_eql, List.length_map, BEq.rfl, rs_r19_Format, Bool.not_eq_true', Bool.not_eq_false', go_sem, eq_self, Nat.reduceEqDiff, Nat.reduceBEq, Nat.reduceAdd, Nat.reduceLeDiff, reduceIte, reduceCtorEq, tysA, tyA, Ty.enc, Ty.encs])
      | (refine Run.condM ?_; simp -implicitDefEqProofs only [leq_t hi, lt_f hlt, hw1, hgt, hi0, hc0, decide_eq_false hneg, strA_eql, List.length_map, BEq.rfl, rs_r19_Format, Bool.not_eq_true', Bool.not_eq_false', go_sem, eq_self, Nat.reduceEqDiff, Nat.reduceBEq, Nat.reduceAdd, Nat.reduceLeDiff, reduceIte, reduceCtorEq, tysA, tyA, Ty.enc, Ty.encs])
      | (refine XPv.strAdd (by (try simp only [List.length_append, List.length_cons, List.length_nil]); omega) ?_; (try simp -implicitDefEqProofs only [leq_t hi, lt_f hlt, hw1, hgt, hi0, hc0, decide_eq_false hneg, strA_eql, List.length_map, BEq.rfl, rs_r19_Format, Bool.not_eq_true', Bool.not_eq_false', go_sem, eq_self, Nat.reduceEqDiff, Nat.reduceBEq, Nat.reduceAdd, Nat.reduceLeDiff, reduceIte, reduceCtorEq, tysA, tyA, Ty.enc, Ty.encs]))
      | (refine XCall.det (number_ok c _ (by omega) (by omega)) ?_; simp -implicitDefEqProofs only [leq_t hi, lt_f hlt, hw1, hgt, hi0, hc0, decide_eq_false hneg, strA_eql, List.length_map, BEq.rfl, rs_r19_Format, Bool.not_eq_true', Bool.not_eq_false', go_sem, eq_self, Nat.reduceEqDiff, Nat.reduceBEq, Nat.reduceAdd, Nat.reduceLeDiff, reduceIte, reduceCtorEq, tysA, tyA, Ty.enc, Ty.encs])
      | (refine xo_gs rfl (fun h => ?_) (fun h => ?_) <;> first | (cases h; done) | simp -implicitDefEqProofs only [leq_t hi, lt_f hlt, hw1, hgt, hi0, hc0, decide_eq_false hneg, strA_eql, List.length_map, BEq.rfl, rs_r19_Format, Bool.not_eq_true', Bool.not_eq_false', go_sem, eq_self, Nat.reduceEqDiff, Nat.reduceBEq, Nat.reduceAdd, Nat.reduceLeDiff, reduceIte, reduceCtorEq, tysA, tyA, Ty.enc, Ty.encs])
      | (refine ⟨fun h => ?_, fun h => ?_⟩ <;> first | (cases h; done) | (simp -implicitDefEqProofs only [h]; done) | (try simp -implicitDefEqProofs only [h]))
      | fail))
            refine ih (i + 1, _) (.inr ⟨hil1, ?_⟩) (by simp only; omega)
            rw [hfm, constPart, if_neg (fun h => hc0' h.1), signP, if_neg hneg, hte, if_neg (by simp), hai, List.append_assoc]
  · have hlq : decide (((ts.length + 1 : Nat) : Int) ≤ (ts.length : Int)) = false := by simp only [decide_eq_false_iff_not]; omega
    (repeat' (first
      | refine Run.seq ?_
      | refine Run.skip ?_
      | refine Run.block ?_
      | refine Run.blk ?_
      | refine Run.scope ?_
      | refine Run.scp ?_
      | (refine Run.exit rfl ?_)
      | (refine Run.reg mixed ?_; simp -implicitDefEqProofs only [hlq, List.length_map, rs_r19_Format, Bool.not_eq_true', Bool.not_eq_false', go_sem, eq_self, Nat.reduceEqDiff, Nat.reduceBEq, Nat.reduceAdd, Nat.reduceLeDiff, reduceIte, reduceCtorEq, tysA, tyA, Ty.enc, Ty.encs])
      | (refine Run.condM ?_; simp -implicitDefEqProofs only [hlq, List.length_map, rs_r19_Format, Bool.not_eq_true', Bool.not_eq_false', go_sem, eq_self, Nat.reduceEqDiff, Nat.reduceBEq, Nat.reduceAdd, Nat.reduceLeDiff, reduceIte, reduceCtorEq, tysA, tyA, Ty.enc, Ty.encs])
      | (refine Run.retP g_r19_Format (Heap.le_refl _) ?_; simp -implicitDefEqProofs only [rs_r19_Format, hlq, List.length_map, go_sem, eq_self, Nat.reduceEqDiff, Nat.reduceBEq, Nat.reduceAdd, Nat.reduceLeDiff, reduceIte, reduceCtorEq, tysA, tyA, Ty.enc, Ty.encs])
      | (refine xo_gs rfl (fun h => ?_) (fun h => ?_) <;> first | (cases h; done) | simp -implicitDefEqProofs only [hlq, List.length_map, rs_r19_Format, Bool.not_eq_true', Bool.not_eq_false', go_sem, eq_self, Nat.reduceEqDiff, Nat.reduceBEq, Nat.reduceAdd, Nat.reduceLeDiff, reduceIte, reduceCtorEq, tysA, tyA, Ty.enc, Ty.encs])
      | (refine ⟨fun h => ?_, fun h => ?_⟩ <;> first | (cases h; done) | (simp -implicitDefEqProofs only [h]; done) | (try simp -implicitDefEqProofs only [h]))
      | fail))
end Go.Ab
