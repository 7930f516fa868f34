/- The text of a form. Conditions: none. -/
import Derived.Test.YtdbpmhfepfpldaaDoorXGf
set_option linter.unusedSimpArgs false
set_option linter.unusedVariables false
namespace Go.Ab
open Go.Proofs

def signP (first : Bool) (n : Int) : List UInt8 := if n < 0 then (if first then [45] else [32, 45, 32]) else if first then [] else [32, 43, 32]
def absI (n : Int) : Int := if n < 0 then -n else n
def nameP (v : Int) : List UInt8 := if v = -1 then [114, 101, 115] else [118] ++ Lib.itoa v
def coefP (n : Int) : List UInt8 := if absI n = 1 then [] else Lib.itoa (absI n) ++ [42]
def termP (first : Bool) (x : Int × Int) : List UInt8 := signP first x.2 ++ coefP x.2 ++ nameP x.1
def termsP : Bool → Tms → List UInt8
  | _, [] => []
  | b, x :: l => termP b x ++ termsP false l
def constPart (l : Ln) : List UInt8 := if l.c = 0 ∧ l.ts ≠ [] then [] else signP l.ts.isEmpty l.c ++ Lib.itoa (absI l.c)
def fmtP (l : Ln) : List UInt8 := if validP l then termsP true l.ts ++ constPart l else []

theorem termsP_snoc : ∀ (l : Tms) (b : Bool) (x : Int × Int), termsP b (l ++ [x]) = termsP b l ++ termP (b && l.isEmpty) x
  | [], b, x => by simp [termsP]
  | y :: l, b, x => by simp [termsP, termsP_snoc l]

theorem itoa_ne (n : Int) : Lib.itoa n ≠ [] := by
  unfold Lib.itoa
  split
  · simp
  · intro h
    have := congrArg List.length h
    rw [Lib.decDigits_length] at this
    have := Lib.nDigits_pos n.toNat
    simp at *; omega
theorem itoa_len {n : Int} (h : -2000000 ≤ n ∧ n ≤ 2000000) : (Lib.itoa n).length ≤ 21 := Lib.itoa_length_le n (by omega) (by omega)
theorem signP_len (b : Bool) (n : Int) : (signP b n).length ≤ 3 := by unfold signP; split <;> split <;> simp
theorem absI_bd {n : Int} (h : -1048576 ≤ n ∧ n ≤ 1048576) : 0 ≤ absI n ∧ absI n ≤ 1048576 := by unfold absI; split <;> omega
theorem termP_len (b : Bool) {x : Int × Int} (h : -1048576 ≤ x.2 ∧ x.2 ≤ 1048576) (hv : -1 ≤ x.1 ∧ x.1 < 3000) : (termP b x).length ≤ 50 := by
  have h1 := signP_len b x.2
  have ha := absI_bd h
  have h2 : (coefP x.2).length ≤ 22 := by
    unfold coefP; split
    · simp
    · have := itoa_len (n := absI x.2) ⟨by omega, by omega⟩
      simp only [List.length_append, List.length_cons, List.length_nil]; omega
  have h3 : (nameP x.1).length ≤ 22 := by
    unfold nameP; split
    · simp
    · have := itoa_len (n := x.1) ⟨by omega, by omega⟩
      simp only [List.length_append, List.length_cons, List.length_nil]; omega
  simp only [termP, List.length_append]; omega
theorem nameP_ne (v : Int) : nameP v ≠ [] := by unfold nameP; split <;> simp
theorem termP_ne (b : Bool) (x : Int × Int) : termP b x ≠ [] := by
  simp only [termP]
  intro h
  exact nameP_ne x.1 (List.append_eq_nil_iff.1 h).2

theorem okTs_var : ∀ {ts : Tms} {p : Option Int}, okTs p ts = true → ∀ x ∈ ts, -1 ≤ x.1 ∧ x.1 < 3000
  | [], _, _, x, hx => by cases hx
  | y :: l, p, h, x, hx => by
    simp only [okTs, Bool.and_eq_true] at h
    rcases List.mem_cons.1 hx with rfl | hx
    · have := h.1.1.1.1; simpa [vaB] using this
    · exact okTs_var h.2 x hx
theorem valid_var {l : Ln} (h : validP l = true) : ∀ x ∈ l.ts, -1 ≤ x.1 ∧ x.1 < 3000 := by
  simp only [validP, Bool.and_eq_true] at h
  exact okTs_var h.2

theorem neg_wrap {n : Int} (h : -1048576 ≤ n ∧ n ≤ 1048576) : IntKind.i64.wrap (0 - n) = -n := by rw [wrap_id (by omega) (by omega)]; omega

theorem sign_ok {σ0 σ : Heap} {i : Nat} {s : List UInt8} (n : Int) (first : Bool) (h : BuS σ0 i s σ) (hn : -1048576 ≤ n ∧ n ≤ 1048576) (hl : s.length ≤ 100000) :
    ACalls Tryd.prog 51 [.gp i 0, .d (.int .i64 n), .d (.bool first)] σ (fun v σ' => v = .d (.int .i64 (absI n)) ∧ BuS σ0 i (s ++ signP first n) σ') := by
  refine i_linear_sign (by simp) ?_
  rw [argF_3]
  have hw := neg_wrap hn
  by_cases h0 : n < 0
  · have hmax : (if -n > n then -n else n) = -n := if_pos (by omega)
    cases first with
    | true =>
      (repeat' (first
      | refine Run.seq ?_
      | refine Run.skip ?_
      | refine Run.block ?_
      | refine Run.blk ?_
      | refine Run.scope ?_
      | refine Run.scp ?_
      | (refine Run.exit rfl ?_)
      | (refine Run.reg mixed ?_; simp -implicitDefEqProofs only [decide_eq_true h0, hw, mmA, hmax, rs_linear_sign, Bool.not_eq_true', Bool.not_eq_false', go_sem, eq_self, Nat.reduceEqDiff, Nat.reduceBEq, Nat.reduceAdd, Nat.reduceLeDiff, reduceIte, reduceCtorEq, tysA, tyA, Ty.enc, Ty.encs])
      | (refine Run.condM ?_; simp -implicitDefEqProofs only [decide_eq_true h0, hw, mmA, hmax, rs_linear_sign, Bool.not_eq_true', Bool.not_eq_false', go_sem, eq_self, Nat.reduceEqDiff, Nat.reduceBEq, Nat.reduceAdd, Nat.reduceLeDiff, reduceIte, reduceCtorEq, tysA, tyA, Ty.enc, Ty.encs])
      | (refine XCall.mk rfl (WriteString_ok [45] h (by simp) (by simp; omega)) ?_; rintro _ σ1 ⟨rfl, hq1⟩; (try simp -implicitDefEqProofs only [decide_eq_true h0, hw, mmA, hmax, rs_linear_sign, Bool.not_eq_true', Bool.not_eq_false', go_sem, eq_self, Nat.reduceEqDiff, Nat.reduceBEq, Nat.reduceAdd, Nat.reduceLeDiff, reduceIte, reduceCtorEq, tysA, tyA, Ty.enc, Ty.encs]))
      | (refine Run.retR g_linear_sign (Heap.le_refl _) ?_; simp -implicitDefEqProofs only [rs_linear_sign, decide_eq_true h0, hw, mmA, hmax, go_sem, eq_self, Nat.reduceEqDiff, Nat.reduceBEq, Nat.reduceAdd, Nat.reduceLeDiff, reduceIte, reduceCtorEq, tysA, tyA, Ty.enc, Ty.encs])
      | (refine xo_gs rfl (fun h => ?_) (fun h => ?_) <;> first | (cases h; done) | simp -implicitDefEqProofs only [decide_eq_true h0, hw, mmA, hmax, rs_linear_sign, Bool.not_eq_true', Bool.not_eq_false', go_sem, eq_self, Nat.reduceEqDiff, Nat.reduceBEq, Nat.reduceAdd, Nat.reduceLeDiff, reduceIte, reduceCtorEq, tysA, tyA, Ty.enc, Ty.encs])
      | (refine ⟨fun h => ?_, fun h => ?_⟩ <;> first | (cases h; done) | (simp -implicitDefEqProofs only [h]; done) | (try simp -implicitDefEqProofs only [h]))
      | fail))
      simp only [signP, absI, if_pos h0, if_true]
      exact ⟨trivial, hq1⟩
    | false =>
      (repeat' (first
      | refine Run.seq ?_
      | refine Run.skip ?_
      | refine Run.block ?_
      | refine Run.blk ?_
      | refine Run.scope ?_
      | refine Run.scp ?_
      | (refine Run.exit rfl ?_)
      | (refine Run.reg mixed ?_; simp -implicitDefEqProofs only [decide_eq_true h0, hw, mmA, hmax, rs_linear_sign, Bool.not_eq_true', Bool.not_eq_false', go_sem, eq_self, Nat.reduceEqDiff, Nat.reduceBEq, Nat.reduceAdd, Nat.reduceLeDiff, reduceIte, reduceCtorEq, tysA, tyA, Ty.enc, Ty.encs])
      | (refine Run.condM ?_; simp -implicitDefEqProofs only [decide_eq_true h0, hw, mmA, hmax, rs_linear_sign, Bool.not_eq_true', Bool.not_eq_false', go_sem, eq_self, Nat.reduceEqDiff, Nat.reduceBEq, Nat.reduceAdd, Nat.reduceLeDiff, reduceIte, reduceCtorEq, tysA, tyA, Ty.enc, Ty.encs])
      | (refine XCall.mk rfl (WriteString_ok [32, 45, 32] h (by simp) (by simp; omega)) ?_; rintro _ σ1 ⟨rfl, hq1⟩; (try simp -implicitDefEqProofs only [decide_eq_true h0, hw, mmA, hmax, rs_linear_sign, Bool.not_eq_true', Bool.not_eq_false', go_sem, eq_self, Nat.reduceEqDiff, Nat.reduceBEq, Nat.reduceAdd, Nat.reduceLeDiff, reduceIte, reduceCtorEq, tysA, tyA, Ty.enc, Ty.encs]))
      | (refine Run.retR g_linear_sign (Heap.le_refl _) ?_; simp -implicitDefEqProofs only [rs_linear_sign, decide_eq_true h0, hw, mmA, hmax, go_sem, eq_self, Nat.reduceEqDiff, Nat.reduceBEq, Nat.reduceAdd, Nat.reduceLeDiff, reduceIte, reduceCtorEq, tysA, tyA, Ty.enc, Ty.encs])
      | (refine xo_gs rfl (fun h => ?_) (fun h => ?_) <;> first | (cases h; done) | simp -implicitDefEqProofs only [decide_eq_true h0, hw, mmA, hmax, rs_linear_sign, Bool.not_eq_true', Bool.not_eq_false', go_sem, eq_self, Nat.reduceEqDiff, Nat.reduceBEq, Nat.reduceAdd, Nat.reduceLeDiff, reduceIte, reduceCtorEq, tysA, tyA, Ty.enc, Ty.encs])
      | (refine ⟨fun h => ?_, fun h => ?_⟩ <;> first | (cases h; done) | (simp -implicitDefEqProofs only [h]; done) | (try simp -implicitDefEqProofs only [h]))
      | fail))
      simp only [signP, absI, if_pos h0]
      exact ⟨trivial, hq1⟩
  · have hmax : (if -n > n then -n else n) = n := by split <;> omega
    cases first with
    | true =>
      (repeat' (first
      | refine Run.seq ?_
      | refine Run.skip ?_
      | refine Run.block ?_
      | refine Run.blk ?_
      | refine Run.scope ?_
      | refine Run.scp ?_
      | (refine Run.exit rfl ?_)
      | (refine Run.reg mixed ?_; simp -implicitDefEqProofs only [decide_eq_false h0, hw, mmA, hmax, rs_linear_sign, Bool.not_eq_true', Bool.not_eq_false', go_sem, eq_self, Nat.reduceEqDiff, Nat.reduceBEq, Nat.reduceAdd, Nat.reduceLeDiff, reduceIte, reduceCtorEq, tysA, tyA, Ty.enc, Ty.encs])
      | (refine Run.condM ?_; simp -implicitDefEqProofs only [decide_eq_false h0, hw, mmA, hmax, rs_linear_sign, Bool.not_eq_true', Bool.not_eq_false', go_sem, eq_self, Nat.reduceEqDiff, Nat.reduceBEq, Nat.reduceAdd, Nat.reduceLeDiff, reduceIte, reduceCtorEq, tysA, tyA, Ty.enc, Ty.encs])
      | (refine Run.retR g_linear_sign (Heap.le_refl _) ?_; simp -implicitDefEqProofs only [rs_linear_sign, decide_eq_false h0, hw, mmA, hmax, go_sem, eq_self, Nat.reduceEqDiff, Nat.reduceBEq, Nat.reduceAdd, Nat.reduceLeDiff, reduceIte, reduceCtorEq, tysA, tyA, Ty.enc, Ty.encs])
      | (refine xo_gs rfl (fun h => ?_) (fun h => ?_) <;> first | (cases h; done) | simp -implicitDefEqProofs only [decide_eq_false h0, hw, mmA, hmax, rs_linear_sign, Bool.not_eq_true', Bool.not_eq_false', go_sem, eq_self, Nat.reduceEqDiff, Nat.reduceBEq, Nat.reduceAdd, Nat.reduceLeDiff, reduceIte, reduceCtorEq, tysA, tyA, Ty.enc, Ty.encs])
      | (refine ⟨fun h => ?_, fun h => ?_⟩ <;> first | (cases h; done) | (simp -implicitDefEqProofs only [h]; done) | (try simp -implicitDefEqProofs only [h]))
      | fail))
      simp only [signP, absI, if_neg h0, if_true, List.append_nil]
      exact ⟨trivial, h⟩
    | false =>
      (repeat' (first
      | refine Run.seq ?_
      | refine Run.skip ?_
      | refine Run.block ?_
      | refine Run.blk ?_
      | refine Run.scope ?_
      | refine Run.scp ?_
      | (refine Run.exit rfl ?_)
      | (refine Run.reg mixed ?_; simp -implicitDefEqProofs only [decide_eq_false h0, hw, mmA, hmax, rs_linear_sign, Bool.not_eq_true', Bool.not_eq_false', go_sem, eq_self, Nat.reduceEqDiff, Nat.reduceBEq, Nat.reduceAdd, Nat.reduceLeDiff, reduceIte, reduceCtorEq, tysA, tyA, Ty.enc, Ty.encs])
      | (refine Run.condM ?_; simp -implicitDefEqProofs only [decide_eq_false h0, hw, mmA, hmax, rs_linear_sign, Bool.not_eq_true', Bool.not_eq_false', go_sem, eq_self, Nat.reduceEqDiff, Nat.reduceBEq, Nat.reduceAdd, Nat.reduceLeDiff, reduceIte, reduceCtorEq, tysA, tyA, Ty.enc, Ty.encs])
      | (refine XCall.mk rfl (WriteString_ok [32, 43, 32] h (by simp) (by simp; omega)) ?_; rintro _ σ1 ⟨rfl, hq1⟩; (try simp -implicitDefEqProofs only [decide_eq_false h0, hw, mmA, hmax, rs_linear_sign, Bool.not_eq_true', Bool.not_eq_false', go_sem, eq_self, Nat.reduceEqDiff, Nat.reduceBEq, Nat.reduceAdd, Nat.reduceLeDiff, reduceIte, reduceCtorEq, tysA, tyA, Ty.enc, Ty.encs]))
      | (refine Run.retR g_linear_sign (Heap.le_refl _) ?_; simp -implicitDefEqProofs only [rs_linear_sign, decide_eq_false h0, hw, mmA, hmax, go_sem, eq_self, Nat.reduceEqDiff, Nat.reduceBEq, Nat.reduceAdd, Nat.reduceLeDiff, reduceIte, reduceCtorEq, tysA, tyA, Ty.enc, Ty.encs])
      | (refine xo_gs rfl (fun h => ?_) (fun h => ?_) <;> first | (cases h; done) | simp -implicitDefEqProofs only [decide_eq_false h0, hw, mmA, hmax, rs_linear_sign, Bool.not_eq_true', Bool.not_eq_false', go_sem, eq_self, Nat.reduceEqDiff, Nat.reduceBEq, Nat.reduceAdd, Nat.reduceLeDiff, reduceIte, reduceCtorEq, tysA, tyA, Ty.enc, Ty.encs])
      | (refine ⟨fun h => ?_, fun h => ?_⟩ <;> first | (cases h; done) | (simp -implicitDefEqProofs only [h]; done) | (try simp -implicitDefEqProofs only [h]))
      | fail))
      simp only [signP, absI, if_neg h0]
      exact ⟨trivial, hq1⟩

theorem strA_add {a b : List UInt8} (h : a.length + b.length ≤ 1000000000) : strA .add a b = some (.d (.str (a ++ b))) := by
  have : a.length + b.length ≤ maxLen := Nat.le_trans h (by decide +kernel)
  simp only [strA, if_pos this]
theorem strA_eql (a b : List UInt8) : strA .eql a b = some (.d (.bool (a == b))) := rfl
theorem strA_neq (a b : List UInt8) : strA .neq a b = some (.d (.bool (!(a == b)))) := rfl

theorem termsP_len : ∀ {l : Tms} {b : Bool}, (∀ x ∈ l, -1048576 ≤ x.2 ∧ x.2 ≤ 1048576) → (∀ x ∈ l, -1 ≤ x.1 ∧ x.1 < 3000) → (termsP b l).length ≤ 50 * l.length
  | [], _, _, _ => by simp [termsP]
  | x :: l, b, h, k => by
    have h1 := termP_len b (h x (List.mem_cons_self ..)) (k x (List.mem_cons_self ..))
    have h2 := termsP_len (l := l) (b := false) (fun y hy => h y (List.mem_cons_of_mem _ hy)) (fun y hy => k y (List.mem_cons_of_mem _ hy))
    simp only [termsP, List.length_append, List.length_cons]; omega

set_option maxHeartbeats 1000000 in
theorem linear_Format_ok (l : Ln) (σ : Heap) (ht : σ.gt powB = some powA) : ACalls Tryd.prog 24 [linA l] σ (fun v σ' => v = .d (.str (fmtP l)) ∧ σ' = σ) := by
  obtain ⟨c, ts⟩ := l
  refine i_linear_Format (by simp) ?_
  rw [argF_1, linA]
  cases hv : validP ⟨c, ts⟩ with
  | false =>
    (repeat' (first
      | refine Run.seq ?_
      | refine Run.skip ?_
      | refine Run.block ?_
      | refine Run.blk ?_
      | refine Run.scope ?_
      | refine Run.scp ?_
      | (refine Run.exit rfl ?_)
      | (refine Run.reg mixed ?_; simp -implicitDefEqProofs only [hv, rs_linear_Format, Bool.not_eq_true', Bool.not_eq_false', go_sem, eq_self, Nat.reduceEqDiff, Nat.reduceBEq, Nat.reduceAdd, Nat.reduceLeDiff, reduceIte, reduceCtorEq, tysA, tyA, Ty.enc, Ty.encs])
      | (refine Run.condM ?_; simp -implicitDefEqProofs only [hv, rs_linear_Format, Bool.not_eq_true', Bool.not_eq_false', go_sem, eq_self, Nat.reduceEqDiff, Nat.reduceBEq, Nat.reduceAdd, Nat.reduceLeDiff, reduceIte, reduceCtorEq, tysA, tyA, Ty.enc, Ty.encs])
      | (refine Run.retP g_linear_Format (Heap.le_refl _) ?_; simp -implicitDefEqProofs only [rs_linear_Format, hv, go_sem, eq_self, Nat.reduceEqDiff, Nat.reduceBEq, Nat.reduceAdd, Nat.reduceLeDiff, reduceIte, reduceCtorEq, tysA, tyA, Ty.enc, Ty.encs])
      | (refine XCall.det (linear_Valid_ok ⟨c, ts⟩ _) ?_; simp -implicitDefEqProofs only [hv, rs_linear_Format, Bool.not_eq_true', Bool.not_eq_false', go_sem, eq_self, Nat.reduceEqDiff, Nat.reduceBEq, Nat.reduceAdd, Nat.reduceLeDiff, reduceIte, reduceCtorEq, tysA, tyA, Ty.enc, Ty.encs])
      | (refine xo_gs rfl (fun h => ?_) (fun h => ?_) <;> first | (cases h; done) | simp -implicitDefEqProofs only [hv, rs_linear_Format, Bool.not_eq_true', Bool.not_eq_false', go_sem, eq_self, Nat.reduceEqDiff, Nat.reduceBEq, Nat.reduceAdd, Nat.reduceLeDiff, reduceIte, reduceCtorEq, tysA, tyA, Ty.enc, Ty.encs])
      | (refine ⟨fun h => ?_, fun h => ?_⟩ <;> first | (cases h; done) | (simp -implicitDefEqProofs only [h]; done) | (try simp -implicitDefEqProofs only [h]))
      | fail))
    simp [fmtP, hv]
  | true =>
  obtain ⟨h1, h2, h3, h4⟩ := valid_facts hv
  have h5 := valid_var hv
  simp only at h1 h2 h3 h4 h5
  (repeat' (first
      | refine Run.seq ?_
      | refine Run.skip ?_
      | refine Run.block ?_
      | refine Run.blk ?_
      | refine Run.scope ?_
      | refine Run.scp ?_
      | (refine Run.exit rfl ?_)
      | (refine Run.reg mixed ?_; simp -implicitDefEqProofs only [hv, List.length_map, rs_linear_Format, Bool.not_eq_true', Bool.not_eq_false', go_sem, eq_self, Nat.reduceEqDiff, Nat.reduceBEq, Nat.reduceAdd, Nat.reduceLeDiff, reduceIte, reduceCtorEq, tysA, tyA, Ty.enc, Ty.encs])
      | (refine Run.condM ?_; simp -implicitDefEqProofs only [hv, List.length_map, rs_linear_Format, Bool.not_eq_true', Bool.not_eq_false', go_sem, eq_self, Nat.reduceEqDiff, Nat.reduceBEq, Nat.reduceAdd, Nat.reduceLeDiff, reduceIte, reduceCtorEq, tysA, tyA, Ty.enc, Ty.encs])
      | (refine XCall.det (linear_Valid_ok ⟨c, ts⟩ _) ?_; simp -implicitDefEqProofs only [hv, List.length_map, rs_linear_Format, Bool.not_eq_true', Bool.not_eq_false', go_sem, eq_self, Nat.reduceEqDiff, Nat.reduceBEq, Nat.reduceAdd, Nat.reduceLeDiff, reduceIte, reduceCtorEq, tysA, tyA, Ty.enc, Ty.encs])
      | (refine xo_gs rfl (fun h => ?_) (fun h => ?_) <;> first | (cases h; done) | simp -implicitDefEqProofs only [hv, List.length_map, rs_linear_Format, Bool.not_eq_true', Bool.not_eq_false', go_sem, eq_self, Nat.reduceEqDiff, Nat.reduceBEq, Nat.reduceAdd, Nat.reduceLeDiff, reduceIte, reduceCtorEq, tysA, tyA, Ty.enc, Ty.encs])
      | (refine ⟨fun h => ?_, fun h => ?_⟩ <;> first | (cases h; done) | (simp -implicitDefEqProofs only [h]; done) | (try simp -implicitDefEqProofs only [h]))
      | fail))
  intro j hj
  have hb0 := bus_alloc hj
  generalize (σ.setBlk j [.nilp, .nils]).setBt j (2, 73) = σ1 at hb0 ⊢
  (repeat' (first
      | refine Run.seq ?_
      | refine Run.skip ?_
      | refine Run.block ?_
      | refine Run.blk ?_
      | refine Run.scope ?_
      | refine Run.scp ?_
      | (refine Run.exit rfl ?_)
      | (refine Run.reg mixed ?_; simp -implicitDefEqProofs only [List.length_map, rs_linear_Format, Bool.not_eq_true', Bool.not_eq_false', go_sem, eq_self, Nat.reduceEqDiff, Nat.reduceBEq, Nat.reduceAdd, Nat.reduceLeDiff, reduceIte, reduceCtorEq, tysA, tyA, Ty.enc, Ty.encs])
      | (refine Run.condM ?_; simp -implicitDefEqProofs only [List.length_map, rs_linear_Format, Bool.not_eq_true', Bool.not_eq_false', go_sem, eq_self, Nat.reduceEqDiff, Nat.reduceBEq, Nat.reduceAdd, Nat.reduceLeDiff, reduceIte, reduceCtorEq, tysA, tyA, Ty.enc, Ty.encs])
      | (refine xo_gs rfl (fun h => ?_) (fun h => ?_) <;> first | (cases h; done) | simp -implicitDefEqProofs only [List.length_map, rs_linear_Format, Bool.not_eq_true', Bool.not_eq_false', go_sem, eq_self, Nat.reduceEqDiff, Nat.reduceBEq, Nat.reduceAdd, Nat.reduceLeDiff, reduceIte, reduceCtorEq, tysA, tyA, Ty.enc, Ty.encs])
      | (refine ⟨fun h => ?_, fun h => ?_⟩ <;> first | (cases h; done) | (simp -implicitDefEqProofs only [h]; done) | (try simp -implicitDefEqProofs only [h]))
      | fail))
  refine Run.loopA ?_
  refine Run.loopI ((fun (a1 : AV) (a3 : AV) (a11 : AV) (a12 : AV) => fun (y : Nat × Heap) => put 1 a1 (put 3 a3 (put 11 a11 (put 12 a12 (put 13 (.d (.int .i64 y.1)) U))))) _ _ _ _) (fun y => putL 1 [.d (.int .i64 c), .d (.sl (ts.map tmR))] E) (fun y => y.2)
    (fun y => y.1 ≤ ts.length ∧ BuS σ j (termsP true (ts.take y.1)) y.2) (fun y => ts.length - y.1) ?_ (0, σ1) ⟨by simp, hb0⟩
  rintro ⟨i, σ2⟩ ⟨hi, hb⟩ ih
  simp only at hi hb
  have htl : (termsP true (ts.take i)).length ≤ 50 * i := by
    have := termsP_len (l := ts.take i) (b := true) (fun x hx => h2 x (List.mem_of_mem_take hx)) (fun x hx => h5 x (List.mem_of_mem_take hx))
    rw [List.length_take, Nat.min_eq_left hi] at this
    exact this
  by_cases hlt : i < ts.length
  · obtain ⟨x, hx⟩ := ex_at hlt
    have hw1 := wrap_succ (show i + 1 ≤ 9000000000000000000 by omega)
    have hx' := tm_at hx
    have hxm := List.mem_of_getElem? hx
    have hxb := h2 x hxm
    have hxv := h5 x hxm
    have hab := absI_bd hxb
    have hsl := signP_len ((i : Int) == 0) x.2
    have hfirst : ((i : Int) == 0) = (true && (ts.take i).isEmpty) := by
      rw [Bool.eq_iff_iff]
      simp only [beq_iff_eq, Bool.true_and, List.isEmpty_iff, List.take_eq_nil_iff]
      constructor
      · intro h; left; omega
      · rintro (h | h)
        · omega
        · rw [h] at hlt; simp at hlt
    have hil := itoa_len (n := absI x.2) ⟨by omega, by omega⟩
    have hvl := itoa_len (n := x.1) ⟨by omega, by omega⟩
    have hsn := termsP_snoc (ts.take i) true x
    have htk : ts.take (i + 1) = ts.take i ++ [x] := by rw [List.take_add_one, hx]; rfl
    by_cases hone : absI x.2 = 1
    · have hone' : (absI x.2 != 1) = false := by simpa using hone
      by_cases hres : x.1 = -1
      · (repeat' (first
      | refine Run.seq ?_
      | refine Run.skip ?_
      | refine Run.block ?_
      | refine Run.blk ?_
      | refine Run.scope ?_
      | refine Run.scp ?_
      | (refine Run.exit rfl ?_)
      | (refine Run.reg mixed ?_; simp -implicitDefEqProofs only [lt_t hlt, hx', hw1, hone', beqT hres, rs_linear_Format, Bool.not_eq_true', Bool.not_eq_false', go_sem, eq_self, Nat.reduceEqDiff, Nat.reduceBEq, Nat.reduceAdd, Nat.reduceLeDiff, reduceIte, reduceCtorEq, tysA, tyA, Ty.enc, Ty.encs])
      | (refine Run.condM ?_; simp -implicitDefEqProofs only [lt_t hlt, hx', hw1, hone', beqT hres, rs_linear_Format, Bool.not_eq_true', Bool.not_eq_false', go_sem, eq_self, Nat.reduceEqDiff, Nat.reduceBEq, Nat.reduceAdd, Nat.reduceLeDiff, reduceIte, reduceCtorEq, tysA, tyA, Ty.enc, Ty.encs])
      | (refine XCall.mk rfl (sign_ok x.2 ((i : Int) == 0) hb hxb (by omega)) ?_; rintro _ σ3 ⟨rfl, hq1⟩; (try simp -implicitDefEqProofs only [lt_t hlt, hx', hw1, hone', beqT hres, rs_linear_Format, Bool.not_eq_true', Bool.not_eq_false', go_sem, eq_self, Nat.reduceEqDiff, Nat.reduceBEq, Nat.reduceAdd, Nat.reduceLeDiff, reduceIte, reduceCtorEq, tysA, tyA, Ty.enc, Ty.encs]))
      | (refine XCall.mk rfl (WriteString_ok [114, 101, 115] hq1 (by simp) (by simp; omega)) ?_; rintro _ σ4 ⟨rfl, hq2⟩; (try simp -implicitDefEqProofs only [lt_t hlt, hx', hw1, hone', beqT hres, rs_linear_Format, Bool.not_eq_true', Bool.not_eq_false', go_sem, eq_self, Nat.reduceEqDiff, Nat.reduceBEq, Nat.reduceAdd, Nat.reduceLeDiff, reduceIte, reduceCtorEq, tysA, tyA, Ty.enc, Ty.encs]))
      | (refine xo_gs rfl (fun h => ?_) (fun h => ?_) <;> first | (cases h; done) | simp -implicitDefEqProofs only [lt_t hlt, hx', hw1, hone', beqT hres, rs_linear_Format, Bool.not_eq_true', Bool.not_eq_false', go_sem, eq_self, Nat.reduceEqDiff, Nat.reduceBEq, Nat.reduceAdd, Nat.reduceLeDiff, reduceIte, reduceCtorEq, tysA, tyA, Ty.enc, Ty.encs])
      | (refine ⟨fun h => ?_, fun h => ?_⟩ <;> first | (cases h; done) | (simp -implicitDefEqProofs only [h]; done) | (try simp -implicitDefEqProofs only [h]))
      | fail))
        refine ih (i + 1, σ4) ⟨by simp only; omega, ?_⟩ (by simp only; omega)
        simp only
        rw [htk, hsn, ← hfirst, termP, coefP, if_pos hone, nameP, if_pos hres, List.append_nil, ← List.append_assoc]
        exact hq2
      · (repeat' (first
      | refine Run.seq ?_
      | refine Run.skip ?_
      | refine Run.block ?_
      | refine Run.blk ?_
      | refine Run.scope ?_
      | refine Run.scp ?_
      | (refine Run.exit rfl ?_)
      | (refine Run.reg mixed ?_; simp -implicitDefEqProofs only [lt_t hlt, hx', hw1, hone', beqF hres, strA_add (a := [118]) (b := Lib.itoa x.1) (by simp; omega), rs_linear_Format, Bool.not_eq_true', Bool.not_eq_false', go_sem, eq_self, Nat.reduceEqDiff, Nat.reduceBEq, Nat.reduceAdd, Nat.reduceLeDiff, reduceIte, reduceCtorEq, tysA, tyA, Ty.enc, Ty.encs])
      | (refine Run.condM ?_; simp -implicitDefEqProofs only [lt_t hlt, hx', hw1, hone', beqF hres, strA_add (a := [118]) (b := Lib.itoa x.1) (by simp; omega), rs_linear_Format, Bool.not_eq_true', Bool.not_eq_false', go_sem, eq_self, Nat.reduceEqDiff, Nat.reduceBEq, Nat.reduceAdd, Nat.reduceLeDiff, reduceIte, reduceCtorEq, tysA, tyA, Ty.enc, Ty.encs])
      | (refine XCall.mk rfl (sign_ok x.2 ((i : Int) == 0) hb hxb (by omega)) ?_; rintro _ σ3 ⟨rfl, hq1⟩; (try simp -implicitDefEqProofs only [lt_t hlt, hx', hw1, hone', beqF hres, strA_add (a := [118]) (b := Lib.itoa x.1) (by simp; omega), rs_linear_Format, Bool.not_eq_true', Bool.not_eq_false', go_sem, eq_self, Nat.reduceEqDiff, Nat.reduceBEq, Nat.reduceAdd, Nat.reduceLeDiff, reduceIte, reduceCtorEq, tysA, tyA, Ty.enc, Ty.encs]))
      | (refine XCall.det (strconv_Itoa_ok x.1 _ (by rw [← hq1.le.gt]; exact ht)) ?_; (try simp -implicitDefEqProofs only [lt_t hlt, hx', hw1, hone', beqF hres, strA_add (a := [118]) (b := Lib.itoa x.1) (by simp; omega), rs_linear_Format, Bool.not_eq_true', Bool.not_eq_false', go_sem, eq_self, Nat.reduceEqDiff, Nat.reduceBEq, Nat.reduceAdd, Nat.reduceLeDiff, reduceIte, reduceCtorEq, tysA, tyA, Ty.enc, Ty.encs]))
      | (refine XCall.mk rfl (WriteString_ok (118 :: Lib.itoa x.1) hq1 (by simp) (by simp; omega)) ?_; rintro _ σ4 ⟨rfl, hq2⟩; (try simp -implicitDefEqProofs only [lt_t hlt, hx', hw1, hone', beqF hres, strA_add (a := [118]) (b := Lib.itoa x.1) (by simp; omega), rs_linear_Format, Bool.not_eq_true', Bool.not_eq_false', go_sem, eq_self, Nat.reduceEqDiff, Nat.reduceBEq, Nat.reduceAdd, Nat.reduceLeDiff, reduceIte, reduceCtorEq, tysA, tyA, Ty.enc, Ty.encs]))
      | (refine xo_gs rfl (fun h => ?_) (fun h => ?_) <;> first | (cases h; done) | simp -implicitDefEqProofs only [lt_t hlt, hx', hw1, hone', beqF hres, strA_add (a := [118]) (b := Lib.itoa x.1) (by simp; omega), rs_linear_Format, Bool.not_eq_true', Bool.not_eq_false', go_sem, eq_self, Nat.reduceEqDiff, Nat.reduceBEq, Nat.reduceAdd, Nat.reduceLeDiff, reduceIte, reduceCtorEq, tysA, tyA, Ty.enc, Ty.encs])
      | (refine ⟨fun h => ?_, fun h => ?_⟩ <;> first | (cases h; done) | (simp -implicitDefEqProofs only [h]; done) | (try simp -implicitDefEqProofs only [h]))
      | fail))
        refine ih (i + 1, σ4) ⟨by simp only; omega, ?_⟩ (by simp only; omega)
        simp only
        rw [htk, hsn, ← hfirst, termP, coefP, if_pos hone, nameP, if_neg hres, List.append_nil, ← List.append_assoc]
        exact hq2
    · have hone' : (absI x.2 != 1) = true := by simpa using hone
      by_cases hres : x.1 = -1
      · (repeat' (first
      | refine Run.seq ?_
      | refine Run.skip ?_
      | refine Run.block ?_
      | refine Run.blk ?_
      | refine Run.scope ?_
      | refine Run.scp ?_
      | (refine Run.exit rfl ?_)
      | (refine Run.reg mixed ?_; simp -implicitDefEqProofs only [lt_t hlt, hx', hw1, hone', beqT hres, strA_add (a := Lib.itoa (absI x.2)) (b := [42]) (by simp; omega), rs_linear_Format, Bool.not_eq_true', Bool.not_eq_false', go_sem, eq_self, Nat.reduceEqDiff, Nat.reduceBEq, Nat.reduceAdd, Nat.reduceLeDiff, reduceIte, reduceCtorEq, tysA, tyA, Ty.enc, Ty.encs])
      | (refine Run.condM ?_; simp -implicitDefEqProofs only [lt_t hlt, hx', hw1, hone', beqT hres, strA_add (a := Lib.itoa (absI x.2)) (b := [42]) (by simp; omega), rs_linear_Format, Bool.not_eq_true', Bool.not_eq_false', go_sem, eq_self, Nat.reduceEqDiff, Nat.reduceBEq, Nat.reduceAdd, Nat.reduceLeDiff, reduceIte, reduceCtorEq, tysA, tyA, Ty.enc, Ty.encs])
      | (refine XCall.mk rfl (sign_ok x.2 ((i : Int) == 0) hb hxb (by omega)) ?_; rintro _ σ3 ⟨rfl, hq1⟩; (try simp -implicitDefEqProofs only [lt_t hlt, hx', hw1, hone', beqT hres, strA_add (a := Lib.itoa (absI x.2)) (b := [42]) (by simp; omega), rs_linear_Format, Bool.not_eq_true', Bool.not_eq_false', go_sem, eq_self, Nat.reduceEqDiff, Nat.reduceBEq, Nat.reduceAdd, Nat.reduceLeDiff, reduceIte, reduceCtorEq, tysA, tyA, Ty.enc, Ty.encs]))
      | (refine XCall.det (strconv_FormatInt_ok (absI x.2) _ (by rw [← hq1.le.gt]; exact ht)) ?_; (try simp -implicitDefEqProofs only [lt_t hlt, hx', hw1, hone', beqT hres, strA_add (a := Lib.itoa (absI x.2)) (b := [42]) (by simp; omega), rs_linear_Format, Bool.not_eq_true', Bool.not_eq_false', go_sem, eq_self, Nat.reduceEqDiff, Nat.reduceBEq, Nat.reduceAdd, Nat.reduceLeDiff, reduceIte, reduceCtorEq, tysA, tyA, Ty.enc, Ty.encs]))
      | (refine XCall.mk rfl (WriteString_ok (Lib.itoa (absI x.2) ++ [42]) hq1 (by simp) (by simp; omega)) ?_; rintro _ σ4 ⟨rfl, hq2⟩; (try simp -implicitDefEqProofs only [lt_t hlt, hx', hw1, hone', beqT hres, strA_add (a := Lib.itoa (absI x.2)) (b := [42]) (by simp; omega), rs_linear_Format, Bool.not_eq_true', Bool.not_eq_false', go_sem, eq_self, Nat.reduceEqDiff, Nat.reduceBEq, Nat.reduceAdd, Nat.reduceLeDiff, reduceIte, reduceCtorEq, tysA, tyA, Ty.enc, Ty.encs]))
      | (refine XCall.mk rfl (WriteString_ok [114, 101, 115] hq2 (by simp) (by simp; omega)) ?_; rintro _ σ5 ⟨rfl, hq3⟩; (try simp -implicitDefEqProofs only [lt_t hlt, hx', hw1, hone', beqT hres, strA_add (a := Lib.itoa (absI x.2)) (b := [42]) (by simp; omega), rs_linear_Format, Bool.not_eq_true', Bool.not_eq_false', go_sem, eq_self, Nat.reduceEqDiff, Nat.reduceBEq, Nat.reduceAdd, Nat.reduceLeDiff, reduceIte, reduceCtorEq, tysA, tyA, Ty.enc, Ty.encs]))
      | (refine xo_gs rfl (fun h => ?_) (fun h => ?_) <;> first | (cases h; done) | simp -implicitDefEqProofs only [lt_t hlt, hx', hw1, hone', beqT hres, strA_add (a := Lib.itoa (absI x.2)) (b := [42]) (by simp; omega), rs_linear_Format, Bool.not_eq_true', Bool.not_eq_false', go_sem, eq_self, Nat.reduceEqDiff, Nat.reduceBEq, Nat.reduceAdd, Nat.reduceLeDiff, reduceIte, reduceCtorEq, tysA, tyA, Ty.enc, Ty.encs])
      | (refine ⟨fun h => ?_, fun h => ?_⟩ <;> first | (cases h; done) | (simp -implicitDefEqProofs only [h]; done) | (try simp -implicitDefEqProofs only [h]))
      | fail))
        refine ih (i + 1, σ5) ⟨by simp only; omega, ?_⟩ (by simp only; omega)
        simp only
        rw [htk, hsn, ← hfirst, termP, coefP, if_neg hone, nameP, if_pos hres, ← List.append_assoc, ← List.append_assoc]
        exact hq3
      · (repeat' (first
      | refine Run.seq ?_
      | refine Run.skip ?_
      | refine Run.block ?_
      | refine Run.blk ?_
      | refine Run.scope ?_
      | refine Run.scp ?_
      | (refine Run.exit rfl ?_)
      | (refine Run.reg mixed ?_; simp -implicitDefEqProofs only [lt_t hlt, hx', hw1, hone', beqF hres, strA_add (a := Lib.itoa (absI x.2)) (b := [42]) (by simp; omega), strA_add (a := [118]) (b := Lib.itoa x.1) (by simp; omega), rs_linear_Format, Bool.not_eq_true', Bool.not_eq_false', go_sem, eq_self, Nat.reduceEqDiff, Nat.reduceBEq, Nat.reduceAdd, Nat.reduceLeDiff, reduceIte, reduceCtorEq, tysA, tyA, Ty.enc, Ty.encs])
      | (refine Run.condM ?_; simp -implicitDefEqProofs only [lt_t hlt, hx', hw1, hone', beqF hres, strA_add (a := Lib.itoa (absI x.2)) (b := [42]) (by simp; omega), strA_add (a := [118]) (b := Lib.itoa x.1) (by simp; omega), rs_linear_Format, Bool.not_eq_true', Bool.not_eq_false', go_sem, eq_self, Nat.reduceEqDiff, Nat.reduceBEq, Nat.reduceAdd, Nat.reduceLeDiff, reduceIte, reduceCtorEq, tysA, tyA, Ty.enc, Ty.encs])
      | (refine XCall.mk rfl (sign_ok x.2 ((i : Int) == 0) hb hxb (by omega)) ?_; rintro _ σ3 ⟨rfl, hq1⟩; (try simp -implicitDefEqProofs only [lt_t hlt, hx', hw1, hone', beqF hres, strA_add (a := Lib.itoa (absI x.2)) (b := [42]) (by simp; omega), strA_add (a := [118]) (b := Lib.itoa x.1) (by simp; omega), rs_linear_Format, Bool.not_eq_true', Bool.not_eq_false', go_sem, eq_self, Nat.reduceEqDiff, Nat.reduceBEq, Nat.reduceAdd, Nat.reduceLeDiff, reduceIte, reduceCtorEq, tysA, tyA, Ty.enc, Ty.encs]))
      | (refine XCall.det (strconv_FormatInt_ok (absI x.2) _ (by rw [← hq1.le.gt]; exact ht)) ?_; (try simp -implicitDefEqProofs only [lt_t hlt, hx', hw1, hone', beqF hres, strA_add (a := Lib.itoa (absI x.2)) (b := [42]) (by simp; omega), strA_add (a := [118]) (b := Lib.itoa x.1) (by simp; omega), rs_linear_Format, Bool.not_eq_true', Bool.not_eq_false', go_sem, eq_self, Nat.reduceEqDiff, Nat.reduceBEq, Nat.reduceAdd, Nat.reduceLeDiff, reduceIte, reduceCtorEq, tysA, tyA, Ty.enc, Ty.encs]))
      | (refine XCall.mk rfl (WriteString_ok (Lib.itoa (absI x.2) ++ [42]) hq1 (by simp) (by simp; omega)) ?_; rintro _ σ4 ⟨rfl, hq2⟩; (try simp -implicitDefEqProofs only [lt_t hlt, hx', hw1, hone', beqF hres, strA_add (a := Lib.itoa (absI x.2)) (b := [42]) (by simp; omega), strA_add (a := [118]) (b := Lib.itoa x.1) (by simp; omega), rs_linear_Format, Bool.not_eq_true', Bool.not_eq_false', go_sem, eq_self, Nat.reduceEqDiff, Nat.reduceBEq, Nat.reduceAdd, Nat.reduceLeDiff, reduceIte, reduceCtorEq, tysA, tyA, Ty.enc, Ty.encs]))
      | (refine XCall.det (strconv_Itoa_ok x.1 _ (by rw [← hq2.le.gt]; exact ht)) ?_; (try simp -implicitDefEqProofs only [lt_t hlt, hx', hw1, hone', beqF hres, strA_add (a := Lib.itoa (absI x.2)) (b := [42]) (by simp; omega), strA_add (a := [118]) (b := Lib.itoa x.1) (by simp; omega), rs_linear_Format, Bool.not_eq_true', Bool.not_eq_false', go_sem, eq_self, Nat.reduceEqDiff, Nat.reduceBEq, Nat.reduceAdd, Nat.reduceLeDiff, reduceIte, reduceCtorEq, tysA, tyA, Ty.enc, Ty.encs]))
      | (refine XCall.mk rfl (WriteString_ok (118 :: Lib.itoa x.1) hq2 (by simp) (by simp; omega)) ?_; rintro _ σ5 ⟨rfl, hq3⟩; (try simp -implicitDefEqProofs only [lt_t hlt, hx', hw1, hone', beqF hres, strA_add (a := Lib.itoa (absI x.2)) (b := [42]) (by simp; omega), strA_add (a := [118]) (b := Lib.itoa x.1) (by simp; omega), rs_linear_Format, Bool.not_eq_true', Bool.not_eq_false', go_sem, eq_self, Nat.reduceEqDiff, Nat.reduceBEq, Nat.reduceAdd, Nat.reduceLeDiff, reduceIte, reduceCtorEq, tysA, tyA, Ty.enc, Ty.encs]))
      | (refine xo_gs rfl (fun h => ?_) (fun h => ?_) <;> first | (cases h; done) | simp -implicitDefEqProofs only [lt_t hlt, hx', hw1, hone', beqF hres, strA_add (a := Lib.itoa (absI x.2)) (b := [42]) (by simp; omega), strA_add (a := [118]) (b := Lib.itoa x.1) (by simp; omega), rs_linear_Format, Bool.not_eq_true', Bool.not_eq_false', go_sem, eq_self, Nat.reduceEqDiff, Nat.reduceBEq, Nat.reduceAdd, Nat.reduceLeDiff, reduceIte, reduceCtorEq, tysA, tyA, Ty.enc, Ty.encs])
      | (refine ⟨fun h => ?_, fun h => ?_⟩ <;> first | (cases h; done) | (simp -implicitDefEqProofs only [h]; done) | (try simp -implicitDefEqProofs only [h]))
      | fail))
        refine ih (i + 1, σ5) ⟨by simp only; omega, ?_⟩ (by simp only; omega)
        simp only
        rw [htk, hsn, ← hfirst, termP, coefP, if_neg hone, nameP, if_neg hres]
        simpa using hq3
  · have hil : i = ts.length := by omega
    subst hil
    rw [List.take_length] at hb htl
    have hemp : ((ts.length : Int) == 0) = ts.isEmpty := by
      rw [Bool.eq_iff_iff]; simp
    have hne : ∀ {s : List UInt8}, s = fmtP ⟨c, ts⟩ → s ≠ [] := by
      rintro s rfl
      simp only [fmtP, hv, if_true]
      cases ts with
      | nil => simp [constPart, itoa_ne]
      | cons x l => simp [termsP, termP_ne]
    by_cases hc : c = 0 ∧ ts ≠ []
    · have hc0 : (c != 0) = false := by simpa using hc.1
      have hte : ts.isEmpty = false := by simpa using hc.2
      have hf : termsP true ts = fmtP ⟨c, ts⟩ := by
        simp only [fmtP, hv, if_true, constPart]
        rw [if_pos hc, List.append_nil]
      (repeat' (first
      | refine Run.seq ?_
      | refine Run.skip ?_
      | refine Run.block ?_
      | refine Run.blk ?_
      | refine Run.scope ?_
      | refine Run.scp ?_
      | (refine Run.exit rfl ?_)
      | (refine Run.reg mixed ?_; simp -implicitDefEqProofs only [lt_f hlt, List.length_map, hc0, hemp, hte, rs_linear_Format, Bool.not_eq_true', Bool.not_eq_false', go_sem, eq_self, Nat.reduceEqDiff, Nat.reduceBEq, Nat.reduceAdd, Nat.reduceLeDiff, reduceIte, reduceCtorEq, tysA, tyA, Ty.enc, Ty.encs])
      | (refine Run.condM ?_; simp -implicitDefEqProofs only [lt_f hlt, List.length_map, hc0, hemp, hte, rs_linear_Format, Bool.not_eq_true', Bool.not_eq_false', go_sem, eq_self, Nat.reduceEqDiff, Nat.reduceBEq, Nat.reduceAdd, Nat.reduceLeDiff, reduceIte, reduceCtorEq, tysA, tyA, Ty.enc, Ty.encs])
      | (refine XCall.mk rfl (String_ok hb (hne hf)) ?_; rintro _ σ3 ⟨rfl, hle⟩; (try simp -implicitDefEqProofs only [lt_f hlt, List.length_map, hc0, hemp, hte, rs_linear_Format, Bool.not_eq_true', Bool.not_eq_false', go_sem, eq_self, Nat.reduceEqDiff, Nat.reduceBEq, Nat.reduceAdd, Nat.reduceLeDiff, reduceIte, reduceCtorEq, tysA, tyA, Ty.enc, Ty.encs]))
      | (refine Run.retP g_linear_Format hle ?_; (try simp -implicitDefEqProofs only [lt_f hlt, List.length_map, hc0, hemp, hte, rs_linear_Format, Bool.not_eq_true', Bool.not_eq_false', go_sem, eq_self, Nat.reduceEqDiff, Nat.reduceBEq, Nat.reduceAdd, Nat.reduceLeDiff, reduceIte, reduceCtorEq, tysA, tyA, Ty.enc, Ty.encs]))
      | (refine xo_gs rfl (fun h => ?_) (fun h => ?_) <;> first | (cases h; done) | simp -implicitDefEqProofs only [lt_f hlt, List.length_map, hc0, hemp, hte, rs_linear_Format, Bool.not_eq_true', Bool.not_eq_false', go_sem, eq_self, Nat.reduceEqDiff, Nat.reduceBEq, Nat.reduceAdd, Nat.reduceLeDiff, reduceIte, reduceCtorEq, tysA, tyA, Ty.enc, Ty.encs])
      | (refine ⟨fun h => ?_, fun h => ?_⟩ <;> first | (cases h; done) | (simp -implicitDefEqProofs only [h]; done) | (try simp -implicitDefEqProofs only [h]))
      | fail))
      rw [hf]
    · have hor : ((c != 0) || ts.isEmpty) = true := by
        simp only [Bool.or_eq_true, bne_iff_ne, ne_eq, List.isEmpty_iff]
        by_cases h0 : c = 0
        · right
          by_cases h : ts = []
          · exact h
          · exact absurd ⟨h0, h⟩ hc
        · exact .inl h0
      have hab := absI_bd ⟨h3, h4⟩
      have hil := itoa_len (n := absI c) ⟨by omega, by omega⟩
      have hsl := signP_len ts.isEmpty c
      have hf : termsP true ts ++ signP ts.isEmpty c ++ Lib.itoa (absI c) = fmtP ⟨c, ts⟩ := by
        simp only [fmtP, hv, if_true, constPart]
        rw [if_neg hc, List.append_assoc]
      have hTail : True := trivial
      cases hc0 : (c != 0) with
      | true =>
        (repeat' (first
      | refine Run.seq ?_
      | refine Run.skip ?_
      | refine Run.block ?_
      | refine Run.blk ?_
      | refine Run.scope ?_
      | refine Run.scp ?_
      | (refine Run.exit rfl ?_)
      | (refine Run.reg mixed ?_; simp -implicitDefEqProofs only [lt_f hlt, List.length_map, hc0, hemp, rs_linear_Format, Bool.not_eq_true', Bool.not_eq_false', go_sem, eq_self, Nat.reduceEqDiff, Nat.reduceBEq, Nat.reduceAdd, Nat.reduceLeDiff, reduceIte, reduceCtorEq, tysA, tyA, Ty.enc, Ty.encs])
      | (refine Run.condM ?_; simp -implicitDefEqProofs only [lt_f hlt, List.length_map, hc0, hemp, rs_linear_Format, Bool.not_eq_true', Bool.not_eq_false', go_sem, eq_self, Nat.reduceEqDiff, Nat.reduceBEq, Nat.reduceAdd, Nat.reduceLeDiff, reduceIte, reduceCtorEq, tysA, tyA, Ty.enc, Ty.encs])
      | (refine XCall.mk rfl (sign_ok c ts.isEmpty hb ⟨h3, h4⟩ (by omega)) ?_; rintro _ σ3 ⟨rfl, hq1⟩; (try simp -implicitDefEqProofs only [lt_f hlt, List.length_map, hc0, hemp, rs_linear_Format, Bool.not_eq_true', Bool.not_eq_false', go_sem, eq_self, Nat.reduceEqDiff, Nat.reduceBEq, Nat.reduceAdd, Nat.reduceLeDiff, reduceIte, reduceCtorEq, tysA, tyA, Ty.enc, Ty.encs]))
      | (refine XCall.det (strconv_FormatInt_ok (absI c) _ (by rw [← hq1.le.gt]; exact ht)) ?_; (try simp -implicitDefEqProofs only [lt_f hlt, List.length_map, hc0, hemp, rs_linear_Format, Bool.not_eq_true', Bool.not_eq_false', go_sem, eq_self, Nat.reduceEqDiff, Nat.reduceBEq, Nat.reduceAdd, Nat.reduceLeDiff, reduceIte, reduceCtorEq, tysA, tyA, Ty.enc, Ty.encs]))
      | (refine XCall.mk rfl (WriteString_ok (Lib.itoa (absI c)) hq1 (itoa_ne _) (by simp; omega)) ?_; rintro _ σ4 ⟨rfl, hq2⟩; (try simp -implicitDefEqProofs only [lt_f hlt, List.length_map, hc0, hemp, rs_linear_Format, Bool.not_eq_true', Bool.not_eq_false', go_sem, eq_self, Nat.reduceEqDiff, Nat.reduceBEq, Nat.reduceAdd, Nat.reduceLeDiff, reduceIte, reduceCtorEq, tysA, tyA, Ty.enc, Ty.encs]))
      | (refine XCall.mk rfl (String_ok hq2 (hne hf)) ?_; rintro _ σ5 ⟨rfl, hle⟩; (try simp -implicitDefEqProofs only [lt_f hlt, List.length_map, hc0, hemp, rs_linear_Format, Bool.not_eq_true', Bool.not_eq_false', go_sem, eq_self, Nat.reduceEqDiff, Nat.reduceBEq, Nat.reduceAdd, Nat.reduceLeDiff, reduceIte, reduceCtorEq, tysA, tyA, Ty.enc, Ty.encs]))
      | (refine Run.retP g_linear_Format hle ?_; (try simp -implicitDefEqProofs only [lt_f hlt, List.length_map, hc0, hemp, rs_linear_Format, Bool.not_eq_true', Bool.not_eq_false', go_sem, eq_self, Nat.reduceEqDiff, Nat.reduceBEq, Nat.reduceAdd, Nat.reduceLeDiff, reduceIte, reduceCtorEq, tysA, tyA, Ty.enc, Ty.encs]))
      | (refine xo_gs rfl (fun h => ?_) (fun h => ?_) <;> first | (cases h; done) | simp -implicitDefEqProofs only [lt_f hlt, List.length_map, hc0, hemp, rs_linear_Format, Bool.not_eq_true', Bool.not_eq_false', go_sem, eq_self, Nat.reduceEqDiff, Nat.reduceBEq, Nat.reduceAdd, Nat.reduceLeDiff, reduceIte, reduceCtorEq, tysA, tyA, Ty.enc, Ty.encs])
      | (refine ⟨fun h => ?_, fun h => ?_⟩ <;> first | (cases h; done) | (simp -implicitDefEqProofs only [h]; done) | (try simp -implicitDefEqProofs only [h]))
      | fail))
        rw [hf]
      | false =>
        have hte : ts.isEmpty = true := by rw [hc0] at hor; simpa using hor
        (repeat' (first
      | refine Run.seq ?_
      | refine Run.skip ?_
      | refine Run.block ?_
      | refine Run.blk ?_
      | refine Run.scope ?_
      | refine Run.scp ?_
      | (refine Run.exit rfl ?_)
      | (refine Run.reg mixed ?_; simp -implicitDefEqProofs only [lt_f hlt, List.length_map, hc0, hemp, hte, rs_linear_Format, Bool.not_eq_true', Bool.not_eq_false', go_sem, eq_self, Nat.reduceEqDiff, Nat.reduceBEq, Nat.reduceAdd, Nat.reduceLeDiff, reduceIte, reduceCtorEq, tysA, tyA, Ty.enc, Ty.encs])
      | (refine Run.condM ?_; simp -implicitDefEqProofs only [lt_f hlt, List.length_map, hc0, hemp, hte, rs_linear_Format, Bool.not_eq_true', Bool.not_eq_false', go_sem, eq_self, Nat.reduceEqDiff, Nat.reduceBEq, Nat.reduceAdd, Nat.reduceLeDiff, reduceIte, reduceCtorEq, tysA, tyA, Ty.enc, Ty.encs])
      | (refine XCall.mk rfl (sign_ok c true hb ⟨h3, h4⟩ (by omega)) ?_; rintro _ σ3 ⟨rfl, hq1⟩; (try simp -implicitDefEqProofs only [lt_f hlt, List.length_map, hc0, hemp, hte, rs_linear_Format, Bool.not_eq_true', Bool.not_eq_false', go_sem, eq_self, Nat.reduceEqDiff, Nat.reduceBEq, Nat.reduceAdd, Nat.reduceLeDiff, reduceIte, reduceCtorEq, tysA, tyA, Ty.enc, Ty.encs]))
      | (refine XCall.det (strconv_FormatInt_ok (absI c) _ (by rw [← hq1.le.gt]; exact ht)) ?_; (try simp -implicitDefEqProofs only [lt_f hlt, List.length_map, hc0, hemp, hte, rs_linear_Format, Bool.not_eq_true', Bool.not_eq_false', go_sem, eq_self, Nat.reduceEqDiff, Nat.reduceBEq, Nat.reduceAdd, Nat.reduceLeDiff, reduceIte, reduceCtorEq, tysA, tyA, Ty.enc, Ty.encs]))
      | (refine XCall.mk rfl (WriteString_ok (Lib.itoa (absI c)) hq1 (itoa_ne _) (by rw [hte] at hsl; simp; omega)) ?_; rintro _ σ4 ⟨rfl, hq2⟩; (try simp -implicitDefEqProofs only [lt_f hlt, List.length_map, hc0, hemp, hte, rs_linear_Format, Bool.not_eq_true', Bool.not_eq_false', go_sem, eq_self, Nat.reduceEqDiff, Nat.reduceBEq, Nat.reduceAdd, Nat.reduceLeDiff, reduceIte, reduceCtorEq, tysA, tyA, Ty.enc, Ty.encs]))
      | (refine XCall.mk rfl (String_ok hq2 (hne (by rw [← hf, hte]))) ?_; rintro _ σ5 ⟨rfl, hle⟩; (try simp -implicitDefEqProofs only [lt_f hlt, List.length_map, hc0, hemp, hte, rs_linear_Format, Bool.not_eq_true', Bool.not_eq_false', go_sem, eq_self, Nat.reduceEqDiff, Nat.reduceBEq, Nat.reduceAdd, Nat.reduceLeDiff, reduceIte, reduceCtorEq, tysA, tyA, Ty.enc, Ty.encs]))
      | (refine Run.retP g_linear_Format hle ?_; (try simp -implicitDefEqProofs only [lt_f hlt, List.length_map, hc0, hemp, hte, rs_linear_Format, Bool.not_eq_true', Bool.not_eq_false', go_sem, eq_self, Nat.reduceEqDiff, Nat.reduceBEq, Nat.reduceAdd, Nat.reduceLeDiff, reduceIte, reduceCtorEq, tysA, tyA, Ty.enc, Ty.encs]))
      | (refine xo_gs rfl (fun h => ?_) (fun h => ?_) <;> first | (cases h; done) | simp -implicitDefEqProofs only [lt_f hlt, List.length_map, hc0, hemp, hte, rs_linear_Format, Bool.not_eq_true', Bool.not_eq_false', go_sem, eq_self, Nat.reduceEqDiff, Nat.reduceBEq, Nat.reduceAdd, Nat.reduceLeDiff, reduceIte, reduceCtorEq, tysA, tyA, Ty.enc, Ty.encs])
      | (refine ⟨fun h => ?_, fun h => ?_⟩ <;> first | (cases h; done) | (simp -implicitDefEqProofs only [h]; done) | (try simp -implicitDefEqProofs only [h]))
      | fail))
        rw [← hf, hte]
end Go.Ab
