/- Valid nodes. Valid expressions. Conditions: none. -/
import Derived.Test.YtlckhmkeihbhmaaXUb
set_option linter.unusedSimpArgs false
namespace Go.Ab
open Go.Proofs
theorem eq0N (n : Nat) : ((n : Int) == 0) = decide (n = 0) := by rw [Bool.eq_iff_iff]; simp only [beq_iff_eq, decide_eq_true_eq]; omega
def plainB (n : Str) (u : Int) (a b : Nat) : Bool := n == [] && (u == 0 && (decide (a = 0) && decide (b = 0)))
theorem plain_ok (o : Int) (n : Str) (u : Int) (ns ks al : List (List DV)) (σ : Heap) :
    ACalls Try.prog 80 [.agg [.d (.int .i64 o), .d (.str n), .d (.int .i64 u), .d (.sl ns), .d (.sl ks), .d (.sl al)]] σ (fun v σ' => v = .d (.bool (plainB n u ns.length al.length)) ∧ σ' = σ) := by
  refine i_syntax_plain (by simp) ?_
  rw [argF_1]
  cases h1 : (n == []) <;> cases h2 : (u == 0) <;> cases h3 : decide (ns.length = 0)
  all_goals (repeat' (first|refine Run.ct rfl ?_|((first|refine Run.reg mixed ?_|refine Run.condM ?_|refine Run.retP g_syntax_plain (Heap.le_refl _) ?_|(refine xo_gs rfl (fun h => ?_) (fun h => ?_) <;> try (cases h; done))) <;> try simp -implicitDefEqProofs only [strA_eql, h1, h2, h3, eq0N, go_sem, Nat.reduceEqDiff, Nat.reduceBEq, Nat.reduceAdd, Nat.reduceLeDiff, reduceIte, reduceCtorEq])|(refine ⟨fun h => ?_, fun h => ?_⟩ <;> first|(cases h; done)|try simp only [h])|fail))
  all_goals (unfold plainB; rw [h1, h2, h3]; rfl)
theorem plain_ok3 (o : Int) (n : Str) (u : Int) (ks al : List (List DV)) (σ : Heap) :
    ACalls Try.prog 80 [.agg [.d (.int .i64 o), .d (.str n), .d (.int .i64 u), .nils, .d (.sl ks), .d (.sl al)]] σ (fun v σ' => v = .d (.bool (plainB n u 0 al.length)) ∧ σ' = σ) :=
  ACalls.plain (by simpa only [AV.plains, plain_agg, plain_d, plain_nils, List.length_nil] using plain_ok o n u [] ks al σ)
theorem plain_ok5 (o : Int) (n : Str) (u : Int) (ns ks : List (List DV)) (σ : Heap) :
    ACalls Try.prog 80 [.agg [.d (.int .i64 o), .d (.str n), .d (.int .i64 u), .d (.sl ns), .d (.sl ks), .nils]] σ (fun v σ' => v = .d (.bool (plainB n u ns.length 0)) ∧ σ' = σ) :=
  ACalls.plain (by simpa only [AV.plains, plain_agg, plain_d, plain_nils, List.length_nil] using plain_ok o n u ns ks [] σ)
theorem between_ok (n lo hi : Int) (σ : Heap) : ACalls Try.prog 84 [.d (.int .i64 n), .d (.int .i64 lo), .d (.int .i64 hi)] σ (fun v σ' => v = .d (.bool (decide (lo ≤ n) && decide (n ≤ hi))) ∧ σ' = σ) := by
  refine i_syntax_between (by simp) ?_
  rw [argF_3]
  cases h1 : decide (lo ≤ n)
  all_goals (repeat' (first|refine Run.ct rfl ?_|((first|refine Run.reg mixed ?_|refine Run.condM ?_|refine Run.retP g_syntax_between (Heap.le_refl _) ?_|(refine xo_gs rfl (fun h => ?_) (fun h => ?_) <;> try (cases h; done))) <;> try simp -implicitDefEqProofs only [h1, go_sem, Nat.reduceEqDiff, Nat.reduceBEq, Nat.reduceAdd, Nat.reduceLeDiff, reduceIte, reduceCtorEq])|(refine ⟨fun h => ?_, fun h => ?_⟩ <;> first|(cases h; done)|try simp only [h])|fail))
def primW (u : Int) : Str := if u = 1 then [110, 101, 119] else if u = 2 then [103, 101, 116] else if u = 3 then [115, 101, 116] else if u = 4 then [108, 101, 110] else if u = 5 then [114, 101, 102] else if u = 6 then [114, 101, 97, 100] else if u = 7 then [119, 114, 105, 116, 101] else []
theorem primitive_ok (u : Int) (σ : Heap) : ACalls Try.prog 85 [.d (.int .i64 u)] σ (fun v σ' => v = .tup [.d (.str (primW u)), .d (.int .i64 (primN u))] ∧ σ' = σ) := by
  refine i_syntax_primitive (by simp) ?_
  rw [argF_1]
  (repeat' (first|refine Run.ct rfl ?_|((first|refine Run.reg mixed ?_|refine Run.condM ?_|refine Run.retP g_syntax_primitive (Heap.le_refl _) ?_|(refine xo_gs rfl (fun h => ?_) (fun h => ?_) <;> try (cases h; done))) <;> try simp -implicitDefEqProofs only [go_sem, Nat.reduceEqDiff, Nat.reduceBEq, Nat.reduceAdd, Nat.reduceLeDiff, reduceIte, reduceCtorEq])|(refine ⟨fun h => ?_, fun h => ?_⟩ <;> first|(cases h; done)|try simp only [h])|fail))
  all_goals (simp only [beq_iff_eq, beq_eq_false_iff_ne, ne_eq] at *; simp_all [primW, primN])
set_option maxHeartbeats 1000000 in
theorem validAlt_ok (a : Al) (σ : Heap) : ACalls Try.prog 83 [alA a] σ (fun v σ' => v = .d (.bool (altB a)) ∧ σ' = σ) := by
  refine i_syntax_validAlt (by simp) ?_
  rw [argF_1]
  obtain ⟨c, vs, o, n, u, ns, ks, al⟩ := a
  simp only [Al.enc_mk, alA, List.map_cons, List.map_nil]
  have hl6 : decide ((vs.length : Int) ≤ 6) = decide (vs.length ≤ 6) := leN vs.length 6
  cases h1 : upperB c with
  | false =>
    (repeat' (first|refine Run.ct rfl ?_|((first|refine Run.reg mixed ?_|refine Run.condM ?_|refine Run.retP g_syntax_validAlt (Heap.le_refl _) ?_|refine XCall.det (syntax_isUpper_ok c _) ?_|(refine xo_gs rfl (fun h => ?_) (fun h => ?_) <;> try (cases h; done))) <;> try simp -implicitDefEqProofs only [h1, go_sem, Nat.reduceEqDiff, Nat.reduceBEq, Nat.reduceAdd, Nat.reduceLeDiff, reduceIte, reduceCtorEq])|(refine ⟨fun h => ?_, fun h => ?_⟩ <;> first|(cases h; done)|try simp only [h])|fail))
    simp [altB, h1]
  | true =>
    by_cases h6 : vs.length ≤ 6
    · (repeat' (first|refine Run.ct rfl ?_|((first|refine Run.reg mixed ?_|refine Run.condM ?_|refine Run.retP g_syntax_validAlt (Heap.le_refl _) ?_|refine XCall.det (syntax_isUpper_ok c _) ?_|refine XCall.det (all_string_ok (caps := []) (by kernel_rfl) rfl bindB vs σ (fun x _ σ1 _ => syntax_isBind_ok x σ1)) ?_|(refine xo_gs rfl (fun h => ?_) (fun h => ?_) <;> try (cases h; done))) <;> try simp -implicitDefEqProofs only [h1, List.length_map, hl6, decide_eq_true h6, go_sem, Nat.reduceEqDiff, Nat.reduceBEq, Nat.reduceAdd, Nat.reduceLeDiff, reduceIte, reduceCtorEq])|(refine ⟨fun h => ?_, fun h => ?_⟩ <;> first|(cases h; done)|try simp only [h])|fail))
      simp [altB, h1, h6]
    · (repeat' (first|refine Run.ct rfl ?_|((first|refine Run.reg mixed ?_|refine Run.condM ?_|refine Run.retP g_syntax_validAlt (Heap.le_refl _) ?_|refine XCall.det (syntax_isUpper_ok c _) ?_|(refine xo_gs rfl (fun h => ?_) (fun h => ?_) <;> try (cases h; done))) <;> try simp -implicitDefEqProofs only [h1, List.length_map, hl6, decide_eq_false h6, go_sem, Nat.reduceEqDiff, Nat.reduceBEq, Nat.reduceAdd, Nat.reduceLeDiff, reduceIte, reduceCtorEq])|(refine ⟨fun h => ?_, fun h => ?_⟩ <;> first|(cases h; done)|try simp only [h])|fail))
      simp [altB, h6]
set_option maxHeartbeats 4000000 in
theorem validLeaf_ok (o : Int) (n : Str) (u : Int) (ns : List Str) (ks : List Ex) (al : List Al) (σ : Heap) (ho : o = 1 ∨ o = 2 ∨ o = 3 ∨ o = 4 ∨ o = 15) :
    ACalls Try.prog 79 [exA (.mk o n u ns ks al)] σ (fun v σ' => v = .d (.bool (nmB o n && nuB o u && nsB o ns && asB o al)) ∧ σ' = σ) := by
  refine i_syntax_validLeaf (by simp) ?_
  rw [argF_1, exA, Ex.enc_mk]
  have fin : ∀ b c : Bool, (b = true ↔ c = true) → AV.d (.bool b) = AV.d (.bool c) := fun b c h => by rw [Bool.eq_iff_iff.2 h]
  rcases ho with rfl | rfl | rfl | rfl | rfl
  · (repeat' (first|refine Run.ct rfl ?_|((first|refine Run.reg mixed ?_|refine Run.condM ?_|refine Run.retP g_syntax_validLeaf (Heap.le_refl _) ?_|refine XCall.det (plain_ok _ _ _ _ _ _ _) ?_|(refine xo_gs rfl (fun h => ?_) (fun h => ?_) <;> try (cases h; done))) <;> try simp -implicitDefEqProofs only [List.length_map, Int.reduceBEq, go_sem, Nat.reduceEqDiff, Nat.reduceBEq, Nat.reduceAdd, Nat.reduceLeDiff, reduceIte, reduceCtorEq])|(refine ⟨fun h => ?_, fun h => ?_⟩ <;> first|(cases h; done)|try simp only [h])|fail))
    all_goals (refine fin _ _ ?_; simp [plainB, nmB, nuB, nsB, asB, *]; try grind)
  · (repeat' (first|refine Run.ct rfl ?_|((first|refine Run.reg mixed ?_|refine Run.condM ?_|refine Run.retP g_syntax_validLeaf (Heap.le_refl _) ?_|refine XCall.det (plain_ok _ _ _ _ _ _ _) ?_|refine XCall.det (between_ok _ _ _ _) ?_|(refine xo_gs rfl (fun h => ?_) (fun h => ?_) <;> try (cases h; done))) <;> try simp -implicitDefEqProofs only [List.length_map, Int.reduceBEq, go_sem, Nat.reduceEqDiff, Nat.reduceBEq, Nat.reduceAdd, Nat.reduceLeDiff, reduceIte, reduceCtorEq])|(refine ⟨fun h => ?_, fun h => ?_⟩ <;> first|(cases h; done)|try simp only [h])|fail))
    all_goals (refine fin _ _ ?_; simp [plainB, nmB, nuB, nsB, asB, *] at *; try grind)
  · (repeat' (first|refine Run.ct rfl ?_|((first|refine Run.reg mixed ?_|refine Run.condM ?_|refine Run.retP g_syntax_validLeaf (Heap.le_refl _) ?_|refine XCall.det (plain_ok _ _ _ _ _ _ _) ?_|refine XCall.det (between_ok _ _ _ _) ?_|(refine xo_gs rfl (fun h => ?_) (fun h => ?_) <;> try (cases h; done))) <;> try simp -implicitDefEqProofs only [List.length_map, Int.reduceBEq, go_sem, Nat.reduceEqDiff, Nat.reduceBEq, Nat.reduceAdd, Nat.reduceLeDiff, reduceIte, reduceCtorEq])|(refine ⟨fun h => ?_, fun h => ?_⟩ <;> first|(cases h; done)|try simp only [h])|fail))
    all_goals (refine fin _ _ ?_; simp [plainB, nmB, nuB, nsB, asB, *] at *; try grind)
  · (repeat' (first|refine Run.ct rfl ?_|((first|refine Run.reg mixed ?_|refine Run.condM ?_|refine Run.retP g_syntax_validLeaf (Heap.le_refl _) ?_|refine XCall.det (plain_ok _ _ _ _ _ _ _) ?_|refine XCall.det (syntax_isName_ok _ _) ?_|(refine xo_gs rfl (fun h => ?_) (fun h => ?_) <;> try (cases h; done))) <;> try simp -implicitDefEqProofs only [List.length_map, Int.reduceBEq, go_sem, Nat.reduceEqDiff, Nat.reduceBEq, Nat.reduceAdd, Nat.reduceLeDiff, reduceIte, reduceCtorEq])|(refine ⟨fun h => ?_, fun h => ?_⟩ <;> first|(cases h; done)|try simp only [h])|fail))
    all_goals (refine fin _ _ ?_; simp [plainB, nmB, nuB, nsB, asB, *] at *; try grind)
  · (repeat' (first|refine Run.ct rfl ?_|((first|refine Run.reg mixed ?_|refine Run.condM ?_|refine Run.retP g_syntax_validLeaf (Heap.le_refl _) ?_|refine XCall.det (plain_ok _ _ _ _ _ _ _) ?_|refine XCall.det (between_ok _ _ _ _) ?_|(refine xo_gs rfl (fun h => ?_) (fun h => ?_) <;> try (cases h; done))) <;> try simp -implicitDefEqProofs only [List.length_map, Int.reduceBEq, go_sem, Nat.reduceEqDiff, Nat.reduceBEq, Nat.reduceAdd, Nat.reduceLeDiff, reduceIte, reduceCtorEq])|(refine ⟨fun h => ?_, fun h => ?_⟩ <;> first|(cases h; done)|try simp only [h])|fail))
    all_goals (refine fin _ _ ?_; simp [plainB, nmB, nuB, nsB, asB, *] at *; try grind)
theorem primN_pos (u : Int) : 0 < primN u ↔ 1 ≤ u ∧ u ≤ 7 := by
  unfold primN; repeat' split
  all_goals omega
set_option maxHeartbeats 8000000 in
theorem validNode_ok (o : Int) (n : Str) (u : Int) (ns : List Str) (ks : List Ex) (al : List Al) (σ : Heap) :
    ACalls Try.prog 67 [exA (.mk o n u ns ks al)] σ (fun v σ' => v = .d (.bool (nodeB o n u ns ks.length al)) ∧ σ' = σ) := by
  refine i_syntax_validNode (by simp) ?_
  rw [argF_1, exA, Ex.enc_mk]
  have fin : ∀ b c : Bool, (b = true ↔ c = true) → AV.d (.bool b) = AV.d (.bool c) := fun b c h => by rw [Bool.eq_iff_iff.2 h]
  have hleaf := fun h => validLeaf_ok o n u ns ks al σ h
  simp only [exA, Ex.enc_mk, List.map_cons, List.map_nil] at hleaf ⊢
  have hbi := all_string_ok (fid := 81) (caps := []) (by kernel_rfl) rfl bindB ns σ (fun x _ σ1 _ => syntax_isBind_ok x σ1)
  have hnm := all_string_ok (fid := 51) (caps := []) (by kernel_rfl) rfl nameB ns σ (fun x _ σ1 _ => syntax_isName_ok x σ1)
  have hal := all_api_Alt_ok (fid := 83) (caps := []) (by kernel_rfl) rfl altB al σ (fun x _ σ1 _ => validAlt_ok x σ1)
  by_cases ho : o = 1 ∨ o = 2 ∨ o = 3 ∨ o = 4 ∨ o = 5 ∨ o = 6 ∨ o = 7 ∨ o = 8 ∨ o = 9 ∨ o = 10 ∨ o = 11 ∨ o = 12 ∨ o = 13 ∨ o = 14 ∨ o = 15 ∨ o = 16 ∨ o = 17
  · rcases ho with rfl | rfl | rfl | rfl | rfl | rfl | rfl | rfl | rfl | rfl | rfl | rfl | rfl | rfl | rfl | rfl | rfl
    all_goals (repeat' (first|refine Run.ct rfl ?_|((first|refine Run.reg mixed ?_|refine Run.condM ?_|refine Run.retP g_syntax_validNode (Heap.le_refl _) ?_|refine XCall.det (hleaf (by simp)) ?_|refine XCall.det (plain_ok _ _ _ _ _ _ _) ?_|refine XCall.det (plain_ok3 _ _ _ _ _ _) ?_|refine XCall.det (plain_ok5 _ _ _ _ _ _) ?_|refine XCall.det (syntax_isUpper_ok _ _) ?_|refine XCall.det (syntax_isBind_ok _ _) ?_|refine XCall.det (between_ok _ _ _ _) ?_|refine XCall.det (primitive_ok _ _) ?_|refine XCall.det (hbi) ?_|refine XCall.det (hnm) ?_|refine XCall.det (hal) ?_|(refine xo_gs rfl (fun h => ?_) (fun h => ?_) <;> try (cases h; done))) <;> try simp -implicitDefEqProofs only [List.length_map, Int.reduceBEq, go_sem, Nat.reduceEqDiff, Nat.reduceBEq, Nat.reduceAdd, Nat.reduceLeDiff, reduceIte, reduceCtorEq])|(refine ⟨fun h => ?_, fun h => ?_⟩ <;> first|(cases h; done)|try simp only [h])|fail))
    all_goals clear hleaf hbi hnm hal
    all_goals (refine fin _ _ ?_; simp [nodeB, plainB, nmB, nuB, nsB, asB, nkB, *] at *; try (have hpr := primN_pos u; grind))
  · have hno : nodeB o n u ns ks.length al = false := by
      simp only [not_or] at ho
      simp [nodeB, nkB, ho]
    simp only [not_or] at ho
    obtain ⟨h1, h2, h3, h4, h5, h6, h7, h8, h9, h10, h11, h12, h13, h14, h15, h16, h17⟩ := ho
    (repeat' (first|refine Run.ct rfl ?_|((first|refine Run.reg mixed ?_|refine Run.condM ?_|refine Run.retP g_syntax_validNode (Heap.le_refl _) ?_|(refine xo_gs rfl (fun h => ?_) (fun h => ?_) <;> try (cases h; done))) <;> try simp -implicitDefEqProofs only [beqF h1, beqF h2, beqF h3, beqF h4, beqF h5, beqF h6, beqF h7, beqF h8, beqF h9, beqF h10, beqF h11, beqF h12, beqF h13, beqF h14, beqF h15, beqF h16, beqF h17, go_sem, Nat.reduceEqDiff, Nat.reduceBEq, Nat.reduceAdd, Nat.reduceLeDiff, reduceIte, reduceCtorEq])|(refine ⟨fun h => ?_, fun h => ?_⟩ <;> first|(cases h; done)|try simp only [h])|fail))
    rw [hno]
end Go.Ab

namespace Go.Ab
open Go.Proofs
section
variable {α β : Type}
theorem foldM_snoc {f : β → α → Option β} {l : List α} {i : Nat} {x : α} {a b : β} (h : (l.take i).foldlM f a = some b) (hx : l[i]? = some x) : (l.take (i + 1)).foldlM f a = f b x := by
  rw [take_snoc hx, List.foldlM_append, h]
  simp [List.foldlM]
theorem foldM_none {f : β → α → Option β} {l : List α} {i : Nat} {x : α} {a b : β} (h : (l.take i).foldlM f a = some b) (hx : l[i]? = some x) (hn : f b x = none) : l.foldlM f a = none := by
  conv => lhs; rw [← List.take_append_drop i l]
  rw [List.foldlM_append, h, drop_at hx]
  simp [List.foldlM, hn]
theorem foldM_le {f : Nat → α → Option Nat} : ∀ (l : List α) (a b : Nat), (∀ x ∈ l, ∀ a b, f a x = some b → b ≤ a) → l.foldlM f a = some b → b ≤ a
  | [], a, b, _, h => by simp [List.foldlM] at h; omega
  | x :: l, a, b, hf, h => by
    simp only [List.foldlM, Option.bind_eq_bind, Option.bind_eq_some_iff] at h
    obtain ⟨c, hc, h⟩ := h
    have := foldM_le l c b (fun y hy => hf y (List.mem_cons_of_mem _ hy)) h
    have := hf x (List.mem_cons_self ..) a c hc
    omega
end
theorem vEx_le : ∀ (d q : Nat) (e : Ex) (r : Nat), vEx d q e = some r → r ≤ q
  | 0, q, e, r, h => by cases h
  | d + 1, 0, .mk .., r, h => by cases h
  | d + 1, q + 1, .mk o n u ns ks al, r, h => by
    simp only [vEx] at h
    split at h
    · simp only [Option.bind_eq_some_iff] at h
      obtain ⟨c, hc, h⟩ := h
      have h1 := foldM_le ks q c (fun x _ a b hab => vEx_le d a x b hab) hc
      have h2 := foldM_le al c r (fun x _ a b hab => by cases x; exact vEx_le d a _ b hab) h
      omega
    · cases h
def VXQ (enc : Nat → Int) (j d q : Nat) (e : Ex) (σ : Heap) (v : AV) (σ' : Heap) : Prop :=
  ∃ b z, v = .d (.bool b) ∧ σ' = σ.setBlk j [.d (.int .i64 z)] ∧ b = (vEx d q e).isSome ∧ ∀ r, vEx d q e = some r → z = enc r
theorem VXQ.yes {enc : Nat → Int} {j d q : Nat} {e : Ex} {σ : Heap} {P : Program} {f : FuncId} {args : List AV} {r : Nat} (h : ACalls P f args σ (VXQ enc j d q e σ)) (hr : vEx d q e = some r) : ACalls P f args σ (fun v σ' => v = .d (.bool true) ∧ σ' = σ.setBlk j [.d (.int .i64 (enc r))]) :=
  h.mono (by
    rintro v σ' ⟨b, z, rfl, rfl, rfl, h⟩
    rw [h r hr, hr]; exact ⟨rfl, rfl⟩)
theorem VXQ.no {enc : Nat → Int} {j d q : Nat} {e : Ex} {σ : Heap} {P : Program} {f : FuncId} {args : List AV} (h : ACalls P f args σ (VXQ enc j d q e σ)) (hr : vEx d q e = none) : ACalls P f args σ (fun v σ' => v = .d (.bool false) ∧ ∃ z, σ' = σ.setBlk j [.d (.int .i64 z)]) :=
  h.mono (by
    rintro v σ' ⟨b, z, rfl, rfl, rfl, h⟩
    rw [hr]; exact ⟨rfl, z, rfl⟩)
def fK (d : Nat) : Nat → Ex → Option Nat := fun q e => vEx d q e
def fA (d : Nat) : Nat → Al → Option Nat := fun q a => match a with | .mk _ _ b => vEx d q b
theorem vEx_succ (d q : Nat) (o : Int) (n : Str) (u : Int) (ns : List Str) (ks : List Ex) (al : List Al) : vEx (d + 1) (q + 1) (.mk o n u ns ks al) = if nodeB o n u ns ks.length al then (ks.foldlM (fK d) q).bind fun q => al.foldlM (fA d) q else none := rfl
def encN (r : Nat) : Int := ((600 - r : Nat) : Int)
set_option maxHeartbeats 4000000 in
theorem counter_expr_ok (j : Nat) : ∀ (d q : Nat), d ≤ 40 → q ≤ 600 → ∀ (e : Ex) (σ : Heap), σ.blk j = some [.d (.int .i64 (encN q))] →
    ACalls Try.prog 53 [.gp j 0, exA e, .d (.int .i64 ((41 - d : Nat) : Int))] σ (VXQ encN j d q e σ) := by
  intro d
  induction d with
  | zero =>
    intro q _ hq e σ hj
    obtain ⟨o, n, u, ns, ks, al⟩ := e
    refine i_syntax_counter_expr (by simp) ?_
    rw [argF_3, exA, Ex.enc_mk]
    have hw : IntKind.i64.wrap (encN q + 1) = ((601 - q : Nat) : Int) := by rw [encN, wrap_pos (by omega) (by omega)]; omega
    have h4 : decide ((40 : Int) < ((41 - 0 : Nat) : Int)) = true := by decide
    (repeat' (first|refine Run.ct rfl ?_|((first|refine Run.reg mixed ?_|refine Run.condM ?_|refine Run.retR g_syntax_counter_expr (Heap.le_refl _) ?_|(refine xo_gs rfl (fun h => ?_) (fun h => ?_) <;> try (cases h; done))) <;> try simp -implicitDefEqProofs only [hj, hw, h4, go_sem, Nat.reduceEqDiff, Nat.reduceBEq, Nat.reduceAdd, Nat.reduceLeDiff, reduceIte, reduceCtorEq])|(refine ⟨fun h => ?_, fun h => ?_⟩ <;> first|(cases h; done)|try simp only [h])|fail))
    all_goals exact ⟨false, _, rfl, rfl, rfl, fun r h => by cases h⟩
  | succ d ihd =>
    intro q hd hq e σ hj
    obtain ⟨o, n, u, ns, ks, al⟩ := e
    refine i_syntax_counter_expr (by simp) ?_
    rw [argF_3, exA, Ex.enc_mk]
    cases q with
    | zero =>
      have hw : IntKind.i64.wrap (encN 0 + 1) = 601 := by decide
      have h6 : decide ((600 : Int) < 601) = true := by decide
      (repeat' (first|refine Run.ct rfl ?_|((first|refine Run.reg mixed ?_|refine Run.condM ?_|refine Run.retR g_syntax_counter_expr (Heap.le_refl _) ?_|(refine xo_gs rfl (fun h => ?_) (fun h => ?_) <;> try (cases h; done))) <;> try simp -implicitDefEqProofs only [hj, hw, h6, go_sem, Nat.reduceEqDiff, Nat.reduceBEq, Nat.reduceAdd, Nat.reduceLeDiff, reduceIte, reduceCtorEq])|(refine ⟨fun h => ?_, fun h => ?_⟩ <;> first|(cases h; done)|try simp only [h])|fail))
      exact ⟨false, _, rfl, rfl, rfl, fun r h => by cases h⟩
    | succ q =>
    have hw : IntKind.i64.wrap (encN (q + 1) + 1) = encN q := by
      have e : encN (q + 1) + 1 = encN q := by simp only [encN]; omega
      rw [e]; exact wrap_pos (by simp only [encN]; omega) (by simp only [encN]; omega)
    have h6 : decide ((600 : Int) < encN q) = false := decide_eq_false (Int.not_lt.2 (by unfold encN; omega))
    have h4 : decide ((40 : Int) < ((41 - (d + 1) : Nat) : Int)) = false := by simp only [decide_eq_false_iff_not]; omega
    have hnode := validNode_ok o n u ns ks al
    simp only [exA, Ex.enc_mk, List.map_cons, List.map_nil] at hnode
    have hw2 : IntKind.i64.wrap (((41 - (d + 1) : Nat) : Int) + 1) = ((41 - d : Nat) : Int) := by
      have e : ((41 - (d + 1) : Nat) : Int) + 1 = ((41 - d : Nat) : Int) := by omega
      rw [e]; exact wrap_pos (by omega) (by omega)
    cases hn : nodeB o n u ns ks.length al with
    | false =>
      rw [hn] at hnode
      (repeat' (first|refine Run.ct rfl ?_|((first|refine Run.reg mixed ?_|refine Run.condM ?_|refine Run.retR g_syntax_counter_expr (Heap.le_refl _) ?_|refine XCall.det (hnode _) ?_|(refine xo_gs rfl (fun h => ?_) (fun h => ?_) <;> try (cases h; done))) <;> try simp -implicitDefEqProofs only [hj, hw, h6, h4, go_sem, Nat.reduceEqDiff, Nat.reduceBEq, Nat.reduceAdd, Nat.reduceLeDiff, reduceIte, reduceCtorEq])|(refine ⟨fun h => ?_, fun h => ?_⟩ <;> first|(cases h; done)|try simp only [h])|fail))
      exact ⟨false, _, rfl, rfl, by rw [vEx_succ, if_neg (by simp [hn])]; rfl, fun r h => by rw [vEx_succ, if_neg (by simp [hn])] at h; cases h⟩
    | true =>
    rw [hn] at hnode
    have hres : vEx (d + 1) (q + 1) (.mk o n u ns ks al) = (ks.foldlM (fK d) q).bind fun q => al.foldlM (fA d) q := by rw [vEx_succ, if_pos hn]
    generalize hV : VXQ encN j (d + 1) (q + 1) (.mk o n u ns ks al) σ = V
    have hno : ∀ z, vEx (d + 1) (q + 1) (.mk o n u ns ks al) = none → V (.d (.bool false)) (σ.setBlk j [.d (.int .i64 z)]) := fun z h => by
      rw [← hV]; exact ⟨false, z, rfl, rfl, by rw [h]; rfl, fun r hr => by rw [h] at hr; cases hr⟩
    have hyes : ∀ r, vEx (d + 1) (q + 1) (.mk o n u ns ks al) = some r → V (.d (.bool true)) (σ.setBlk j [.d (.int .i64 (encN r))]) := fun z h => by
      rw [← hV]; exact ⟨true, _, rfl, rfl, by rw [h]; rfl, fun r hr => by rw [h] at hr; cases hr; rfl⟩
    clear hV
    (repeat' (first|refine Run.ct rfl ?_|((first|refine Run.reg mixed ?_|refine Run.condM ?_|refine XCall.det (hnode _) ?_|(refine xo_gs rfl (fun h => ?_) (fun h => ?_) <;> try (cases h; done))) <;> try simp -implicitDefEqProofs only [hj, hw, h6, h4, List.length_map, go_sem, Nat.reduceEqDiff, Nat.reduceBEq, Nat.reduceAdd, Nat.reduceLeDiff, reduceIte, reduceCtorEq])|(refine ⟨fun h => ?_, fun h => ?_⟩ <;> first|(cases h; done)|try simp only [h])|fail))
    refine Run.cell 4 4 rfl rfl (fun hb4 => ?_)
    refine Run.cell 4 5 rfl rfl (fun hb5 => ?_)
    simp only [AV.lenOk, List.length_map] at hb4 hb5
    refine Run.loopA ?_
    refine Run.loopI ((fun (a0 : AV) (a2 : AV) (a4 : AV) (a33 : AV) (a34 : AV) => fun (y : Nat × Nat) => put 0 a0 (put 2 a2 (put 4 a4 (put 33 a33 (put 34 a34 (put 35 (.d (.int .i64 y.1)) U)))))) _ _ _ _ _) (fun _ => putL 4 [.d (.int .i64 o), .d (.str n), .d (.int .i64 u), .d (.sl (ns.map sRow)), .d (.sl (ks.map Ex.enc)), .d (.sl (al.map Al.enc))] E) (fun y => σ.setBlk j [.d (.int .i64 (encN y.2))])
      (fun y => y.1 ≤ ks.length ∧ y.2 ≤ q ∧ (ks.take y.1).foldlM (fK d) q = some y.2) (fun y => ks.length - y.1) ?_ (0, q) ⟨by simp, Nat.le_refl _, rfl⟩
    rintro ⟨i, p⟩ ⟨hi, hp, hok⟩ ih
    simp only at hi hp hok
    by_cases hlt : i < ks.length
    · obtain ⟨x, hx⟩ := ex_at hlt
      have he := row_at (enc := Ex.enc) hx
      have hw1 : IntKind.i64.wrap ((i : Int) + 1) = ((i + 1 : Nat) : Int) := by rw [wrap_pos (by omega) (by omega)]; omega
      have hc := ihd p (by omega) (by omega) x (σ.setBlk j [.d (.int .i64 (encN p))]) (by simp only [setBlk_get, if_true])
      cases hv : vEx d p x with
      | some r =>
        have hr := vEx_le _ _ _ _ hv
        have hc := VXQ.yes hc hv
        have hs := foldM_snoc hok hx
        obtain ⟨xo, xn, xu, xs, xk, xa⟩ := x
        simp only [Ex.enc_mk, exA, List.map_cons, List.map_nil] at he hc
        (repeat' (first|refine Run.ct rfl ?_|((first|refine Run.reg mixed ?_|refine Run.condM ?_|(refine XCall.mk rfl hc ?_; rintro _ _ ⟨rfl, rfl⟩)|(refine xo_gs rfl (fun h => ?_) (fun h => ?_) <;> try (cases h; done))) <;> try simp -implicitDefEqProofs only [lt_t hlt, he, hw1, hw2, go_sem, Nat.reduceEqDiff, Nat.reduceBEq, Nat.reduceAdd, Nat.reduceLeDiff, reduceIte, reduceCtorEq])|(refine ⟨fun h => ?_, fun h => ?_⟩ <;> first|(cases h; done)|try simp only [h])|fail))
        exact ih (i + 1, r) ⟨by simp only; omega, by simp only; omega, by simp only; rw [hs]; exact hv⟩ (by simp only; omega)
      | none =>
        have hc := VXQ.no hc hv
        have hs := foldM_none hok hx hv
        obtain ⟨xo, xn, xu, xs, xk, xa⟩ := x
        simp only [Ex.enc_mk, exA, List.map_cons, List.map_nil] at he hc
        (repeat' (first|refine Run.ct rfl ?_|((first|refine Run.reg mixed ?_|refine Run.condM ?_|refine Run.retR g_syntax_counter_expr (Heap.le_refl _) ?_|(refine XCall.mk rfl hc ?_; rintro _ _ ⟨rfl, z, rfl⟩)|(refine xo_gs rfl (fun h => ?_) (fun h => ?_) <;> try (cases h; done))) <;> try simp -implicitDefEqProofs only [lt_t hlt, he, hw1, hw2, go_sem, Nat.reduceEqDiff, Nat.reduceBEq, Nat.reduceAdd, Nat.reduceLeDiff, reduceIte, reduceCtorEq])|(refine ⟨fun h => ?_, fun h => ?_⟩ <;> first|(cases h; done)|try simp only [h])|fail))
        exact hno z (by rw [hres, hs]; rfl)
    · rw [List.take_of_length_le (by omega)] at hok
      rw [hok, Option.bind_some] at hres
      clear ih
      (repeat' (first|refine Run.ct rfl ?_|((first|refine Run.reg mixed ?_|refine Run.condM ?_|(refine xo_gs rfl (fun h => ?_) (fun h => ?_) <;> try (cases h; done))) <;> try simp -implicitDefEqProofs only [lt_f hlt, List.length_map, go_sem, Nat.reduceEqDiff, Nat.reduceBEq, Nat.reduceAdd, Nat.reduceLeDiff, reduceIte, reduceCtorEq])|(refine ⟨fun h => ?_, fun h => ?_⟩ <;> first|(cases h; done)|try simp only [h])|fail))
      refine Run.loopA ?_
      refine Run.loopI ((fun (a0 : AV) (a2 : AV) (a47 : AV) (a48 : AV) => fun (y : Nat × Nat) => put 0 a0 (put 2 a2 (put 47 a47 (put 48 a48 (put 49 (.d (.int .i64 y.1)) U))))) _ _ _ _) (fun _ => E) (fun y => σ.setBlk j [.d (.int .i64 (encN y.2))])
        (fun y => y.1 ≤ al.length ∧ y.2 ≤ q ∧ (al.take y.1).foldlM (fA d) p = some y.2) (fun y => al.length - y.1) ?_ (0, p) ⟨by simp, hp, rfl⟩
      rintro ⟨i, p⟩ ⟨hi, hp, hok⟩ ih
      simp only at hi hp hok
      by_cases hlt : i < al.length
      · obtain ⟨x, hx⟩ := ex_at hlt
        have he := row_at (enc := Al.enc) hx
        have hw1 : IntKind.i64.wrap ((i : Int) + 1) = ((i + 1 : Nat) : Int) := by rw [wrap_pos (by omega) (by omega)]; omega
        obtain ⟨xc, xv, x⟩ := x
        have hc := ihd p (by omega) (by omega) x (σ.setBlk j [.d (.int .i64 (encN p))]) (by simp only [setBlk_get, if_true])
        cases hv : vEx d p x with
        | some r =>
          have hr := vEx_le _ _ _ _ hv
          have hc := VXQ.yes hc hv
          have hs := foldM_snoc hok hx
          obtain ⟨xo, xn, xu, xs, xk, xa⟩ := x
          simp only [Al.enc_mk, Ex.enc_mk, exA, List.map_cons, List.map_nil] at he hc
          (repeat' (first|refine Run.ct rfl ?_|((first|refine Run.reg mixed ?_|refine Run.condM ?_|(refine XCall.mk rfl hc ?_; rintro _ _ ⟨rfl, rfl⟩)|(refine xo_gs rfl (fun h => ?_) (fun h => ?_) <;> try (cases h; done))) <;> try simp -implicitDefEqProofs only [lt_t hlt, he, hw1, hw2, go_sem, Nat.reduceEqDiff, Nat.reduceBEq, Nat.reduceAdd, Nat.reduceLeDiff, reduceIte, reduceCtorEq])|(refine ⟨fun h => ?_, fun h => ?_⟩ <;> first|(cases h; done)|try simp only [h])|fail))
          exact ih (i + 1, r) ⟨by simp only; omega, by simp only; omega, by simp only; rw [hs]; exact hv⟩ (by simp only; omega)
        | none =>
          have hc := VXQ.no hc hv
          have hs := foldM_none hok hx hv
          obtain ⟨xo, xn, xu, xs, xk, xa⟩ := x
          simp only [Al.enc_mk, Ex.enc_mk, exA, List.map_cons, List.map_nil] at he hc
          (repeat' (first|refine Run.ct rfl ?_|((first|refine Run.reg mixed ?_|refine Run.condM ?_|refine Run.retR g_syntax_counter_expr (Heap.le_refl _) ?_|(refine XCall.mk rfl hc ?_; rintro _ _ ⟨rfl, z, rfl⟩)|(refine xo_gs rfl (fun h => ?_) (fun h => ?_) <;> try (cases h; done))) <;> try simp -implicitDefEqProofs only [lt_t hlt, he, hw1, hw2, go_sem, Nat.reduceEqDiff, Nat.reduceBEq, Nat.reduceAdd, Nat.reduceLeDiff, reduceIte, reduceCtorEq])|(refine ⟨fun h => ?_, fun h => ?_⟩ <;> first|(cases h; done)|try simp only [h])|fail))
          exact hno z (by rw [hres, hs])
      · rw [List.take_of_length_le (by omega)] at hok
        (repeat' (first|refine Run.ct rfl ?_|((first|refine Run.reg mixed ?_|refine Run.condM ?_|refine Run.retR g_syntax_counter_expr (Heap.le_refl _) ?_|(refine xo_gs rfl (fun h => ?_) (fun h => ?_) <;> try (cases h; done))) <;> try simp -implicitDefEqProofs only [lt_f hlt, go_sem, Nat.reduceEqDiff, Nat.reduceBEq, Nat.reduceAdd, Nat.reduceLeDiff, reduceIte, reduceCtorEq])|(refine ⟨fun h => ?_, fun h => ?_⟩ <;> first|(cases h; done)|try simp only [h])|fail))
        exact hyes p (by rw [hres, hok])
theorem primArity_ok (u : Int) (σ : Heap) : ACalls Try.prog 34 [.d (.int .i64 u)] σ (fun v σ' => v = .d (.int .i64 (primN u)) ∧ σ' = σ) := by
  refine i_r4_primArity (by simp) ?_
  rw [argF_1]
  by_cases h : 1 ≤ u ∧ u ≤ 7
  · obtain ⟨h1, h2⟩ := h
    obtain rfl | rfl | rfl | rfl | rfl | rfl | rfl : u = 1 ∨ u = 2 ∨ u = 3 ∨ u = 4 ∨ u = 5 ∨ u = 6 ∨ u = 7 := by omega
    all_goals (repeat' (first|refine Run.ct rfl ?_|((first|refine Run.reg mixed ?_|refine Run.condM ?_|refine Run.retP g_r4_primArity (Heap.le_refl _) ?_|(refine xo_gs rfl (fun h => ?_) (fun h => ?_) <;> try (cases h; done))) <;> try simp -implicitDefEqProofs only [List.replicate, Int.reduceLT, Int.reduceLE, Int.reduceToNat, go_sem, Nat.reduceEqDiff, Nat.reduceBEq, Nat.reduceAdd, Nat.reduceLeDiff, reduceIte, reduceCtorEq])|(refine ⟨fun h => ?_, fun h => ?_⟩ <;> first|(cases h; done)|try simp only [h])|fail))
    all_goals rfl
  · have hp : primN u = 0 := by
      have := primN_pos u; omega
    rw [hp]
    by_cases h1 : u < 1
    · (repeat' (first|refine Run.ct rfl ?_|((first|refine Run.reg mixed ?_|refine Run.condM ?_|refine Run.retP g_r4_primArity (Heap.le_refl _) ?_|(refine xo_gs rfl (fun h => ?_) (fun h => ?_) <;> try (cases h; done))) <;> try simp -implicitDefEqProofs only [decide_eq_true h1, go_sem, Nat.reduceEqDiff, Nat.reduceBEq, Nat.reduceAdd, Nat.reduceLeDiff, reduceIte, reduceCtorEq])|(refine ⟨fun h => ?_, fun h => ?_⟩ <;> first|(cases h; done)|try simp only [h])|fail))
      rfl
    · have h8 : decide (((8 : Nat) : Int) ≤ u) = true := by simp; omega
      (repeat' (first|refine Run.ct rfl ?_|((first|refine Run.reg mixed ?_|refine Run.condM ?_|refine Run.retP g_r4_primArity (Heap.le_refl _) ?_|(refine xo_gs rfl (fun h => ?_) (fun h => ?_) <;> try (cases h; done))) <;> try simp -implicitDefEqProofs only [decide_eq_false h1, h8, go_sem, Nat.reduceEqDiff, Nat.reduceBEq, Nat.reduceAdd, Nat.reduceLeDiff, reduceIte, reduceCtorEq])|(refine ⟨fun h => ?_, fun h => ?_⟩ <;> first|(cases h; done)|try simp only [h])|fail))
      rfl
end Go.Ab
