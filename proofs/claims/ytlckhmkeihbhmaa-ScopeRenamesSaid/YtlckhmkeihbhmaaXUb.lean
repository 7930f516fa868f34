/- Names. Valid written types. Valid written types and nodes. Conditions: none. -/
import Derived.Test.YtlckhmkeihbhmaaXUa
set_option linter.unusedSimpArgs false
namespace Go.Ab
open Go.Proofs
def singleR (r : List Tok × Nat × Int) (k : Int) (s : Str) : Bool :=
  r.2.2 == 0 && (r.1.length == 2 && (match r.1 with | [] => false | a :: _ => a.kind == k && a.text == s))
theorem singleR_eq (k : Int) (s : Str) : singleB k s = singleR (splitP s) k s := rfl
theorem len_two {α : Type} {l : List α} (h : l.length = 2) : ∃ a b, l = [a, b] := by
  match l, h with
  | [a, b], _ => exact ⟨a, b, rfl⟩
theorem r4_single_ok (s : Str) (k : Int) (σ : Heap) : ACalls Try.prog 15 [.d (.str s), .d (.int .i64 k)] σ (fun v σ' => v = .d (.bool (singleB k s)) ∧ σ' = σ) := by
  refine i_r4_single (by simp) ?_
  rw [argF_2, singleR_eq]
  have hsp := r3_Split_ok s σ
  generalize splitP s = r at hsp ⊢
  obtain ⟨l, q, e⟩ := r
  simp only [splitA] at hsp
  cases he : (e == 0) with
  | false =>
    (repeat' (first|refine Run.ct rfl ?_|((first|refine Run.reg mixed ?_|refine Run.condM ?_|refine Run.retP g_r4_single (Heap.le_refl _) ?_|refine XCall.det (hsp) ?_|(refine xo_gs rfl (fun h => ?_) (fun h => ?_) <;> try (cases h; done))) <;> try simp -implicitDefEqProofs only [he, go_sem, Nat.reduceEqDiff, Nat.reduceBEq, Nat.reduceAdd, Nat.reduceLeDiff, reduceIte, reduceCtorEq])|(refine ⟨fun h => ?_, fun h => ?_⟩ <;> first|(cases h; done)|try simp only [h])|fail))
    simp [singleR, he]
  | true =>
  by_cases hl : l.length = 2
  · obtain ⟨⟨ak, at', ap⟩, b, rfl⟩ := len_two hl
    simp only [Tok.enc, List.map_cons, List.map_nil] at hsp
    cases hk : (ak == k) with
    | false =>
      (repeat' (first|refine Run.ct rfl ?_|((first|refine Run.reg mixed ?_|refine Run.condM ?_|refine Run.retP g_r4_single (Heap.le_refl _) ?_|refine XCall.det (hsp) ?_|(refine xo_gs rfl (fun h => ?_) (fun h => ?_) <;> try (cases h; done))) <;> try simp -implicitDefEqProofs only [he, hk, go_sem, Nat.reduceEqDiff, Nat.reduceBEq, Nat.reduceAdd, Nat.reduceLeDiff, reduceIte, reduceCtorEq])|(refine ⟨fun h => ?_, fun h => ?_⟩ <;> first|(cases h; done)|try simp only [h])|fail))
      simp [singleR, hk]
    | true =>
      (repeat' (first|refine Run.ct rfl ?_|((first|refine Run.reg mixed ?_|refine Run.condM ?_|refine Run.retP g_r4_single (Heap.le_refl _) ?_|refine XCall.det (hsp) ?_|(refine xo_gs rfl (fun h => ?_) (fun h => ?_) <;> try (cases h; done))) <;> try simp -implicitDefEqProofs only [he, hk, strA_eql, go_sem, Nat.reduceEqDiff, Nat.reduceBEq, Nat.reduceAdd, Nat.reduceLeDiff, reduceIte, reduceCtorEq])|(refine ⟨fun h => ?_, fun h => ?_⟩ <;> first|(cases h; done)|try simp only [h])|fail))
      simp [singleR, hk, he]
  · have h2 : ((l.length : Int) == 2) = false := by simp only [beq_eq_false_iff_ne, ne_eq]; omega
    (repeat' (first|refine Run.ct rfl ?_|((first|refine Run.reg mixed ?_|refine Run.condM ?_|refine Run.retP g_r4_single (Heap.le_refl _) ?_|refine XCall.det (hsp) ?_|(refine xo_gs rfl (fun h => ?_) (fun h => ?_) <;> try (cases h; done))) <;> try simp -implicitDefEqProofs only [he, List.length_map, h2, go_sem, Nat.reduceEqDiff, Nat.reduceBEq, Nat.reduceAdd, Nat.reduceLeDiff, reduceIte, reduceCtorEq])|(refine ⟨fun h => ?_, fun h => ?_⟩ <;> first|(cases h; done)|try simp only [h])|fail))
    simp [singleR, hl]
theorem syntax_isToken_ok (s : Str) (k : Int) (σ : Heap) : ACalls Try.prog 64 [.d (.str s), .d (.int .i64 k)] σ (fun v σ' => v = .d (.bool (singleB k s)) ∧ σ' = σ) := by
  refine i_syntax_isToken (by simp) ?_
  rw [argF_2, singleR_eq]
  have hsp := token_Split_ok s σ
  generalize splitP s = r at hsp ⊢
  obtain ⟨l, q, e⟩ := r
  simp only [splitA] at hsp
  cases he : (e == 0) with
  | false =>
    (repeat' (first|refine Run.ct rfl ?_|((first|refine Run.reg mixed ?_|refine Run.condM ?_|refine Run.retP g_syntax_isToken (Heap.le_refl _) ?_|refine XCall.det (hsp) ?_|(refine xo_gs rfl (fun h => ?_) (fun h => ?_) <;> try (cases h; done))) <;> try simp -implicitDefEqProofs only [he, go_sem, Nat.reduceEqDiff, Nat.reduceBEq, Nat.reduceAdd, Nat.reduceLeDiff, reduceIte, reduceCtorEq])|(refine ⟨fun h => ?_, fun h => ?_⟩ <;> first|(cases h; done)|try simp only [h])|fail))
    simp [singleR, he]
  | true =>
  by_cases hl : l.length = 2
  · obtain ⟨⟨ak, at', ap⟩, b, rfl⟩ := len_two hl
    simp only [Tok.enc, List.map_cons, List.map_nil] at hsp
    cases hk : (ak == k) with
    | false =>
      (repeat' (first|refine Run.ct rfl ?_|((first|refine Run.reg mixed ?_|refine Run.condM ?_|refine Run.retP g_syntax_isToken (Heap.le_refl _) ?_|refine XCall.det (hsp) ?_|(refine xo_gs rfl (fun h => ?_) (fun h => ?_) <;> try (cases h; done))) <;> try simp -implicitDefEqProofs only [he, hk, go_sem, Nat.reduceEqDiff, Nat.reduceBEq, Nat.reduceAdd, Nat.reduceLeDiff, reduceIte, reduceCtorEq])|(refine ⟨fun h => ?_, fun h => ?_⟩ <;> first|(cases h; done)|try simp only [h])|fail))
      simp [singleR, hk]
    | true =>
      (repeat' (first|refine Run.ct rfl ?_|((first|refine Run.reg mixed ?_|refine Run.condM ?_|refine Run.retP g_syntax_isToken (Heap.le_refl _) ?_|refine XCall.det (hsp) ?_|(refine xo_gs rfl (fun h => ?_) (fun h => ?_) <;> try (cases h; done))) <;> try simp -implicitDefEqProofs only [he, hk, strA_eql, go_sem, Nat.reduceEqDiff, Nat.reduceBEq, Nat.reduceAdd, Nat.reduceLeDiff, reduceIte, reduceCtorEq])|(refine ⟨fun h => ?_, fun h => ?_⟩ <;> first|(cases h; done)|try simp only [h])|fail))
      simp [singleR, hk, he]
  · have h2 : ((l.length : Int) == 2) = false := by simp only [beq_eq_false_iff_ne, ne_eq]; omega
    (repeat' (first|refine Run.ct rfl ?_|((first|refine Run.reg mixed ?_|refine Run.condM ?_|refine Run.retP g_syntax_isToken (Heap.le_refl _) ?_|refine XCall.det (hsp) ?_|(refine xo_gs rfl (fun h => ?_) (fun h => ?_) <;> try (cases h; done))) <;> try simp -implicitDefEqProofs only [he, List.length_map, h2, go_sem, Nat.reduceEqDiff, Nat.reduceBEq, Nat.reduceAdd, Nat.reduceLeDiff, reduceIte, reduceCtorEq])|(refine ⟨fun h => ?_, fun h => ?_⟩ <;> first|(cases h; done)|try simp only [h])|fail))
    simp [singleR, hl]
theorem syntax_isName_ok (s : Str) (σ : Heap) : ACalls Try.prog 51 [.d (.str s)] σ (fun v σ' => v = .d (.bool (nameB s)) ∧ σ' = σ) := by
  refine i_syntax_isName (by simp) ?_
  rw [argF_1]
  (repeat' (first|refine Run.ct rfl ?_|((first|refine Run.reg mixed ?_|refine Run.condM ?_|refine Run.retP g_syntax_isName (Heap.le_refl _) ?_|refine XCall.det (syntax_isToken_ok s 1 _) ?_|(refine xo_gs rfl (fun h => ?_) (fun h => ?_) <;> try (cases h; done))) <;> try simp -implicitDefEqProofs only [go_sem, Nat.reduceEqDiff, Nat.reduceBEq, Nat.reduceAdd, Nat.reduceLeDiff, reduceIte, reduceCtorEq])|(refine ⟨fun h => ?_, fun h => ?_⟩ <;> first|(cases h; done)|try simp only [h])|fail))
  rfl
theorem syntax_isUpper_ok (s : Str) (σ : Heap) : ACalls Try.prog 58 [.d (.str s)] σ (fun v σ' => v = .d (.bool (upperB s)) ∧ σ' = σ) := by
  refine i_syntax_isUpper (by simp) ?_
  rw [argF_1]
  (repeat' (first|refine Run.ct rfl ?_|((first|refine Run.reg mixed ?_|refine Run.condM ?_|refine Run.retP g_syntax_isUpper (Heap.le_refl _) ?_|refine XCall.det (syntax_isToken_ok s 2 _) ?_|(refine xo_gs rfl (fun h => ?_) (fun h => ?_) <;> try (cases h; done))) <;> try simp -implicitDefEqProofs only [go_sem, Nat.reduceEqDiff, Nat.reduceBEq, Nat.reduceAdd, Nat.reduceLeDiff, reduceIte, reduceCtorEq])|(refine ⟨fun h => ?_, fun h => ?_⟩ <;> first|(cases h; done)|try simp only [h])|fail))
  rfl
theorem syntax_isBind_ok (s : Str) (σ : Heap) : ACalls Try.prog 81 [.d (.str s)] σ (fun v σ' => v = .d (.bool (bindB s)) ∧ σ' = σ) := by
  refine i_syntax_isBind (by simp) ?_
  rw [argF_1]
  cases h0 : (s == []) with
  | true =>
    (repeat' (first|refine Run.ct rfl ?_|((first|refine Run.reg mixed ?_|refine Run.condM ?_|refine Run.retP g_syntax_isBind (Heap.le_refl _) ?_|(refine xo_gs rfl (fun h => ?_) (fun h => ?_) <;> try (cases h; done))) <;> try simp -implicitDefEqProofs only [strA_eql, h0, go_sem, Nat.reduceEqDiff, Nat.reduceBEq, Nat.reduceAdd, Nat.reduceLeDiff, reduceIte, reduceCtorEq])|(refine ⟨fun h => ?_, fun h => ?_⟩ <;> first|(cases h; done)|try simp only [h])|fail))
    simp [bindB, h0]
  | false =>
    (repeat' (first|refine Run.ct rfl ?_|((first|refine Run.reg mixed ?_|refine Run.condM ?_|refine Run.retP g_syntax_isBind (Heap.le_refl _) ?_|refine XCall.det (syntax_isName_ok s _) ?_|(refine xo_gs rfl (fun h => ?_) (fun h => ?_) <;> try (cases h; done))) <;> try simp -implicitDefEqProofs only [strA_eql, h0, go_sem, Nat.reduceEqDiff, Nat.reduceBEq, Nat.reduceAdd, Nat.reduceLeDiff, reduceIte, reduceCtorEq])|(refine ⟨fun h => ?_, fun h => ?_⟩ <;> first|(cases h; done)|try simp only [h])|fail))
    simp [bindB, h0]
def bindsB (l : List Str) (strict : Bool) : Bool := decide (l.length ≤ 6) && l.all (fun s => nameB s || (s == [] && !strict))
theorem gt6 (n : Nat) : decide ((6 : Int) < (n : Int)) = !decide (n ≤ 6) := gtN n 6
theorem all_at {α : Type} {p : α → Bool} {l : List α} {i : Nat} {x : α} (hx : l[i]? = some x) (hp : p x = false) : l.all p = false := by
  rw [List.all_eq_false]; exact ⟨x, List.mem_of_getElem? hx, by rw [hp]; simp⟩
theorem all_snoc {α : Type} {p : α → Bool} {l : List α} {i : Nat} {x : α} (h : (l.take i).all p = true) (hx : l[i]? = some x) (hp : p x = true) : (l.take (i + 1)).all p = true := by
  rw [take_snoc hx, List.all_append, h]; simp [hp]
theorem r4_binds_ok (l : List Str) (strict : Bool) (σ : Heap) : ACalls Try.prog 16 [.d (.sl (l.map sRow)), .d (.bool strict)] σ (fun v σ' => v = .d (.bool (bindsB l strict)) ∧ σ' = σ) := by
  refine i_r4_binds (by simp) ?_
  rw [argF_2]
  by_cases h6 : l.length ≤ 6
  case neg =>
    (repeat' (first|refine Run.ct rfl ?_|((first|refine Run.reg mixed ?_|refine Run.condM ?_|refine Run.retP g_r4_binds (Heap.le_refl _) ?_|(refine xo_gs rfl (fun h => ?_) (fun h => ?_) <;> try (cases h; done))) <;> try simp -implicitDefEqProofs only [gt6, List.length_map, decide_eq_false h6, go_sem, Nat.reduceEqDiff, Nat.reduceBEq, Nat.reduceAdd, Nat.reduceLeDiff, reduceIte, reduceCtorEq])|(refine ⟨fun h => ?_, fun h => ?_⟩ <;> first|(cases h; done)|try simp only [h])|fail))
    simp [bindsB, h6]
  (repeat' (first|refine Run.ct rfl ?_|((first|refine Run.reg mixed ?_|refine Run.condM ?_|(refine xo_gs rfl (fun h => ?_) (fun h => ?_) <;> try (cases h; done))) <;> try simp -implicitDefEqProofs only [gt6, List.length_map, decide_eq_true h6, go_sem, Nat.reduceEqDiff, Nat.reduceBEq, Nat.reduceAdd, Nat.reduceLeDiff, reduceIte, reduceCtorEq])|(refine ⟨fun h => ?_, fun h => ?_⟩ <;> first|(cases h; done)|try simp only [h])|fail))
  refine Run.loopA ?_
  refine Run.loopI ((fun (a0 : AV) (a1 : AV) => fun (i : Nat) => put 0 a0 (put 1 a1 (put 5 (.d (.int .i64 i)) U))) _ _) (fun _ => E) (fun _ => σ) (fun i => i ≤ l.length ∧ (l.take i).all (fun s => nameB s || (s == [] && !strict)) = true) (fun i => l.length - i) ?_ 0 ⟨by simp, by simp⟩
  rintro i ⟨hi, hok⟩ ih
  by_cases hlt : i < l.length
  · obtain ⟨x, hx⟩ := ex_at hlt
    have he := row_at (enc := sRow) hx
    simp only [sRow] at he
    have hw1 := wrap_succ (show i + 1 ≤ 9000000000000000000 by omega)
    have hn := r4_single_ok x 1 σ
    rw [show singleB 1 x = nameB x from rfl] at hn
    cases hp : (nameB x || (x == [] && !strict)) with
    | true =>
      cases hnm : nameB x with
      | true =>
        rw [hnm] at hn
        (repeat' (first|refine Run.ct rfl ?_|((first|refine Run.reg mixed ?_|refine Run.condM ?_|refine XCall.det (hn) ?_|(refine xo_gs rfl (fun h => ?_) (fun h => ?_) <;> try (cases h; done))) <;> try simp -implicitDefEqProofs only [lt_t hlt, List.length_map, he, hw1, strA_eql, go_sem, Nat.reduceEqDiff, Nat.reduceBEq, Nat.reduceAdd, Nat.reduceLeDiff, reduceIte, reduceCtorEq])|(refine ⟨fun h => ?_, fun h => ?_⟩ <;> first|(cases h; done)|try simp only [h])|fail))
        exact ih (i + 1) ⟨by omega, all_snoc hok hx hp⟩ (by omega)
      | false =>
        rw [hnm] at hn
        simp only [hnm, Bool.false_or, Bool.and_eq_true, Bool.not_eq_true'] at hp
        obtain ⟨hp1, rfl⟩ := hp
        (repeat' (first|refine Run.ct rfl ?_|((first|refine Run.reg mixed ?_|refine Run.condM ?_|refine XCall.det (hn) ?_|(refine xo_gs rfl (fun h => ?_) (fun h => ?_) <;> try (cases h; done))) <;> try simp -implicitDefEqProofs only [lt_t hlt, List.length_map, he, hw1, strA_eql, hp1, go_sem, Nat.reduceEqDiff, Nat.reduceBEq, Nat.reduceAdd, Nat.reduceLeDiff, reduceIte, reduceCtorEq])|(refine ⟨fun h => ?_, fun h => ?_⟩ <;> first|(cases h; done)|try simp only [h])|fail))
        exact ih (i + 1) ⟨by omega, all_snoc hok hx (by simp [hnm, hp1])⟩ (by omega)
    | false =>
      have hnm : nameB x = false := (Bool.or_eq_false_iff.1 hp).1
      rw [hnm] at hn
      have hres : bindsB l strict = false := by rw [bindsB, all_at hx hp, Bool.and_false]
      cases h0 : (x == []) with
      | false =>
        (repeat' (first|refine Run.ct rfl ?_|((first|refine Run.reg mixed ?_|refine Run.condM ?_|refine Run.retP g_r4_binds (Heap.le_refl _) ?_|refine XCall.det (hn) ?_|(refine xo_gs rfl (fun h => ?_) (fun h => ?_) <;> try (cases h; done))) <;> try simp -implicitDefEqProofs only [lt_t hlt, List.length_map, he, hw1, strA_eql, h0, go_sem, Nat.reduceEqDiff, Nat.reduceBEq, Nat.reduceAdd, Nat.reduceLeDiff, reduceIte, reduceCtorEq])|(refine ⟨fun h => ?_, fun h => ?_⟩ <;> first|(cases h; done)|try simp only [h])|fail))
        rw [hres]
      | true =>
        have hst : strict = true := by simpa [hnm, h0] using hp
        (repeat' (first|refine Run.ct rfl ?_|((first|refine Run.reg mixed ?_|refine Run.condM ?_|refine Run.retP g_r4_binds (Heap.le_refl _) ?_|refine XCall.det (hn) ?_|(refine xo_gs rfl (fun h => ?_) (fun h => ?_) <;> try (cases h; done))) <;> try simp -implicitDefEqProofs only [lt_t hlt, List.length_map, he, hw1, strA_eql, h0, hst, go_sem, Nat.reduceEqDiff, Nat.reduceBEq, Nat.reduceAdd, Nat.reduceLeDiff, reduceIte, reduceCtorEq])|(refine ⟨fun h => ?_, fun h => ?_⟩ <;> first|(cases h; done)|try simp only [h])|fail))
        rw [← hst, hres]
  · (repeat' (first|refine Run.ct rfl ?_|((first|refine Run.reg mixed ?_|refine Run.condM ?_|refine Run.retP g_r4_binds (Heap.le_refl _) ?_|(refine xo_gs rfl (fun h => ?_) (fun h => ?_) <;> try (cases h; done))) <;> try simp -implicitDefEqProofs only [lt_f hlt, List.length_map, go_sem, Nat.reduceEqDiff, Nat.reduceBEq, Nat.reduceAdd, Nat.reduceLeDiff, reduceIte, reduceCtorEq])|(refine ⟨fun h => ?_, fun h => ?_⟩ <;> first|(cases h; done)|try simp only [h])|fail))
    rw [List.take_of_length_le (by omega)] at hok
    rw [bindsB, hok]; simp [h6]
end Go.Ab

namespace Go.Ab
open Go.Proofs
theorem le40 (d : Nat) : decide ((40 : Int) < (d : Int)) = !decide (d ≤ 40) := gtN d 40
theorem ne_nil (s : Str) : (!(s == [])) = !(s == []) := rfl
set_option maxHeartbeats 4000000 in
theorem r4_validType_ok : ∀ (d : Nat) (t : TE) (σ : Heap), d ≤ 40 → t.size ≤ 1000000 → ACalls Try.prog 17 [teA t, .d (.int .i64 d)] σ (fun v σ' => v = .d (.bool (validTE d t)) ∧ σ' = σ) := by
  intro d
  induction d with
  | zero =>
    rintro ⟨k, n, l⟩ σ _ _
    refine i_r4_validType (by simp) ?_
    rw [argF_2, teA, TE.enc_mk]
    have h0 : (((0 : Nat) : Int) == 0) = true := by decide
    (repeat' (first|refine Run.ct rfl ?_|((first|refine Run.reg mixed ?_|refine Run.condM ?_|refine Run.retP g_r4_validType (Heap.le_refl _) ?_|(refine xo_gs rfl (fun h => ?_) (fun h => ?_) <;> try (cases h; done))) <;> try simp -implicitDefEqProofs only [h0, go_sem, Nat.reduceEqDiff, Nat.reduceBEq, Nat.reduceAdd, Nat.reduceLeDiff, reduceIte, reduceCtorEq])|(refine ⟨fun h => ?_, fun h => ?_⟩ <;> first|(cases h; done)|try simp only [h])|fail))
    rfl
  | succ d ihd =>
    rintro ⟨k, n, l⟩ σ hd hsz
    have hlen := TE.len_sizes l
    have hsz1 : TE.sizes l + 1 ≤ 1000000 := by simpa [TE.size, Nat.add_comm] using hsz
    refine i_r4_validType (by simp) ?_
    rw [argF_2, teA, TE.enc_mk]
    have h0 : (((d + 1 : Nat) : Int) == 0) = false := by simp only [beq_eq_false_iff_ne, ne_eq]; omega
    have hws : IntKind.i64.wrap (((d + 1 : Nat) : Int) - 1) = (d : Int) := wrap_sub1' (by omega)
    have hloop : shapeTE k n l.length = true → Run x_r4_validType (fun v σ' => v = .d (.bool (validTE (d + 1) (.mk k n l))) ∧ σ' = σ) [.code (.loop c_r4_validType_L0), .blk 1, .code (.seq (.reg [⟨some 4, .mv (.c (.d (.bool true))), none⟩] [4]) .ret)]
        (put 1 (.d (.int .i64 ((d + 1 : Nat) : Int))) (put 2 (.lp 2 0) (put 5 (.d (.int .i64 l.length)) (put 6 (.d (.int .i64 0)) U)))) (putL 2 [.d (.int .i64 k), .d (.str n), .d (.sl (l.map TE.enc))] E) σ := by
      intro hsh
      refine Run.loopA ?_
      refine Run.loopI ((fun (a1 : AV) (a2 : AV) (a5 : AV) => fun (i : Nat) => put 1 a1 (put 2 a2 (put 5 a5 (put 6 (.d (.int .i64 i)) U)))) _ _ _) (fun _ => putL 2 [.d (.int .i64 k), .d (.str n), .d (.sl (l.map TE.enc))] E) (fun _ => σ) (fun i => i ≤ l.length ∧ (l.take i).all (validTE d) = true) (fun i => l.length - i) ?_ 0 ⟨by simp, by simp⟩
      rintro i ⟨hi, hok⟩ ih
      by_cases hlt : i < l.length
      · obtain ⟨x, hx⟩ := ex_at hlt
        have he := row_at (enc := TE.enc) hx
        have hms := TE.mem_sz (List.mem_of_getElem? hx)
        have hc := ihd x σ (by omega) (by omega)
        have hw1 := wrap_succ (show i + 1 ≤ 9000000000000000000 by omega)
        cases hp : validTE d x with
        | true =>
          rw [hp] at hc
          obtain ⟨xk, xn, xl⟩ := x
          simp only [TE.enc_mk, teA, List.map_cons, List.map_nil] at he hc
          (repeat' (first|refine Run.ct rfl ?_|((first|refine Run.reg mixed ?_|refine Run.condM ?_|refine XCall.det (hc) ?_|(refine xo_gs rfl (fun h => ?_) (fun h => ?_) <;> try (cases h; done))) <;> try simp -implicitDefEqProofs only [lt_t hlt, he, hw1, hws, go_sem, Nat.reduceEqDiff, Nat.reduceBEq, Nat.reduceAdd, Nat.reduceLeDiff, reduceIte, reduceCtorEq])|(refine ⟨fun h => ?_, fun h => ?_⟩ <;> first|(cases h; done)|try simp only [h])|fail))
          exact ih (i + 1) ⟨by omega, all_snoc hok hx hp⟩ (by omega)
        | false =>
          rw [hp] at hc
          have hres : validTE (d + 1) (.mk k n l) = false := by rw [validTE, all_at hx hp, Bool.and_false]
          obtain ⟨xk, xn, xl⟩ := x
          simp only [TE.enc_mk, teA, List.map_cons, List.map_nil] at he hc
          (repeat' (first|refine Run.ct rfl ?_|((first|refine Run.reg mixed ?_|refine Run.condM ?_|refine Run.retP g_r4_validType (Heap.le_refl _) ?_|refine XCall.det (hc) ?_|(refine xo_gs rfl (fun h => ?_) (fun h => ?_) <;> try (cases h; done))) <;> try simp -implicitDefEqProofs only [lt_t hlt, he, hw1, hws, go_sem, Nat.reduceEqDiff, Nat.reduceBEq, Nat.reduceAdd, Nat.reduceLeDiff, reduceIte, reduceCtorEq])|(refine ⟨fun h => ?_, fun h => ?_⟩ <;> first|(cases h; done)|try simp only [h])|fail))
          rw [hres]
      · (repeat' (first|refine Run.ct rfl ?_|((first|refine Run.reg mixed ?_|refine Run.condM ?_|refine Run.retP g_r4_validType (Heap.le_refl _) ?_|(refine xo_gs rfl (fun h => ?_) (fun h => ?_) <;> try (cases h; done))) <;> try simp -implicitDefEqProofs only [lt_f hlt, go_sem, Nat.reduceEqDiff, Nat.reduceBEq, Nat.reduceAdd, Nat.reduceLeDiff, reduceIte, reduceCtorEq])|(refine ⟨fun h => ?_, fun h => ?_⟩ <;> first|(cases h; done)|try simp only [h])|fail))
        rw [List.take_of_length_le (by omega)] at hok
        rw [validTE, hsh, hok]; rfl
    clear ihd
    (repeat' (first|refine Run.ct rfl ?_|((first|refine Run.reg mixed ?_|refine Run.condM ?_|refine Run.retP g_r4_validType (Heap.le_refl _) ?_|((refine hloop ?_))|refine XCall.det (r4_single_ok _ _ _) ?_|(refine xo_gs rfl (fun h => ?_) (fun h => ?_) <;> try (cases h; done))) <;> try simp -implicitDefEqProofs only [h0, strA_eql, strA_neq, List.length_map, go_sem, Nat.reduceEqDiff, Nat.reduceBEq, Nat.reduceAdd, Nat.reduceLeDiff, reduceIte, reduceCtorEq])|(refine ⟨fun h => ?_, fun h => ?_⟩ <;> first|(cases h; done)|try simp only [h])|fail))
    all_goals clear hloop hws h0
    all_goals (simp only [beq_iff_eq, beq_eq_false_iff_ne, ne_eq, Bool.not_eq_true', Bool.not_eq_false', decide_eq_true_eq, decide_eq_false_iff_not] at *; simp_all [validTE, shapeTE, nameB, upperB]; first | done | omega | (intros; omega) | (intros; exfalso; omega) | (rcases l with _ | ⟨a, l⟩ <;> simp <;> omega))
end Go.Ab

namespace Go.Ab
open Go.Proofs
theorem syntax_validType_1_ok (d : Nat) (hd : ∀ (t : TE) (σ : Heap), t.size ≤ 1000000 → ACalls Try.prog 63 [teA t, .d (.int .i64 ((41 - d : Nat) : Int))] σ (fun v σ' => v = .d (.bool (validTE d t)) ∧ σ' = σ)) (hd40 : d < 40)
    (t : TE) (j : Nat) (σ : Heap) (hsz : t.size ≤ 1000000) (hj : σ.blk j = some [.d (.int .i64 ((40 - d : Nat) : Int))]) :
    ACalls Try.prog 76 [teA t, .gp j 0] σ (fun v σ' => v = .d (.bool (validTE d t)) ∧ σ' = σ) := by
  refine i_syntax_validType_1 (by simp) ?_
  rw [argF_2]
  have hc := hd t σ hsz
  obtain ⟨k, n, l⟩ := t
  simp only [TE.enc_mk, teA, List.map_cons, List.map_nil] at hc ⊢
  have hw : IntKind.i64.wrap (((40 - d : Nat) : Int) + 1) = ((41 - d : Nat) : Int) := by rw [wrap_pos (by omega) (by omega)]; omega
  (repeat' (first|refine Run.ct rfl ?_|((first|refine Run.reg mixed ?_|refine Run.condM ?_|refine Run.retP g_syntax_validType_1 (Heap.le_refl _) ?_|refine XCall.det (hc) ?_|(refine xo_gs rfl (fun h => ?_) (fun h => ?_) <;> try (cases h; done))) <;> try simp -implicitDefEqProofs only [hj, hw, go_sem, Nat.reduceEqDiff, Nat.reduceBEq, Nat.reduceAdd, Nat.reduceLeDiff, reduceIte, reduceCtorEq])|(refine ⟨fun h => ?_, fun h => ?_⟩ <;> first|(cases h; done)|try simp only [h])|fail))
set_option maxHeartbeats 4000000 in
theorem syntax_validType_ok : ∀ (d : Nat), d ≤ 40 → ∀ (t : TE) (σ : Heap), t.size ≤ 1000000 → ACalls Try.prog 63 [teA t, .d (.int .i64 ((41 - d : Nat) : Int))] σ (fun v σ' => v = .d (.bool (validTE d t)) ∧ σ' = σ) := by
  intro d
  induction d with
  | zero =>
    rintro _ ⟨k, n, l⟩ σ _
    refine i_syntax_validType (by simp) ?_
    rw [argF_2, teA, TE.enc_mk]
    (repeat' (first|refine Run.ct rfl ?_|((first|refine Run.reg mixed ?_|refine Run.condM ?_|(refine xo_gs rfl (fun h => ?_) (fun h => ?_) <;> try (cases h; done))) <;> try simp -implicitDefEqProofs only [go_sem, Nat.reduceEqDiff, Nat.reduceBEq, Nat.reduceAdd, Nat.reduceLeDiff, reduceIte, reduceCtorEq])|(refine ⟨fun h => ?_, fun h => ?_⟩ <;> first|(cases h; done)|try simp only [h])|fail))
    intro j hj
    have hle := le_setBlk (cs := [.d (.int .i64 ((41 - 0 : Nat) : Int))]) hj
    have h0 : decide ((40 : Int) < ((41 - 0 : Nat) : Int)) = true := by decide
    (repeat' (first|refine Run.ct rfl ?_|((first|refine Run.reg mixed ?_|refine Run.condM ?_|(refine Run.retP g_syntax_validType (σ2 := σ) hle ?_)|(refine xo_gs rfl (fun h => ?_) (fun h => ?_) <;> try (cases h; done))) <;> try simp -implicitDefEqProofs only [h0, go_sem, Nat.reduceEqDiff, Nat.reduceBEq, Nat.reduceAdd, Nat.reduceLeDiff, reduceIte, reduceCtorEq])|(refine ⟨fun h => ?_, fun h => ?_⟩ <;> first|(cases h; done)|try simp only [h])|fail))
    rfl
  | succ d ihd =>
    rintro hd ⟨k, n, l⟩ σ hsz
    have hlen := TE.len_sizes l
    have hsz1 : TE.sizes l + 1 ≤ 1000000 := by simpa [TE.size, Nat.add_comm] using hsz
    have hd1 := ihd (by omega)
    refine i_syntax_validType (by simp) ?_
    rw [argF_2, teA, TE.enc_mk]
    have h0 : decide ((40 : Int) < ((41 - (d + 1) : Nat) : Int)) = false := by simp only [decide_eq_false_iff_not]; omega
    (repeat' (first|refine Run.ct rfl ?_|((first|refine Run.reg mixed ?_|refine Run.condM ?_|(refine xo_gs rfl (fun h => ?_) (fun h => ?_) <;> try (cases h; done))) <;> try simp -implicitDefEqProofs only [go_sem, Nat.reduceEqDiff, Nat.reduceBEq, Nat.reduceAdd, Nat.reduceLeDiff, reduceIte, reduceCtorEq])|(refine ⟨fun h => ?_, fun h => ?_⟩ <;> first|(cases h; done)|try simp only [h])|fail))
    intro j hj
    have hle := le_setBlk (cs := [.d (.int .i64 ((41 - (d + 1) : Nat) : Int))]) hj
    have hall := all_api_TypeExpr_ok (fid := 76) (caps := [.gp j 0]) (by kernel_rfl) rfl (validTE d) l (σ.setBlk j [.d (.int .i64 ((41 - (d + 1) : Nat) : Int))]) (fun x hx σ1 hle1 => by
      have hms := TE.mem_sz hx
      refine syntax_validType_1_ok d hd1 (by omega) x j σ1 (by omega) ?_
      rw [hle1.blk j _ (by simp only [setBlk_get, if_true]; rfl)]
      rw [show 41 - (d + 1) = 40 - d by omega])
    clear hd1 ihd
    (repeat' (first|refine Run.ct rfl ?_|((first|refine Run.reg mixed ?_|refine Run.condM ?_|(refine Run.retP g_syntax_validType (σ2 := σ) hle ?_)|refine XCall.det (syntax_isName_ok _ _) ?_|refine XCall.det (syntax_isUpper_ok _ _) ?_|refine XCall.det (hall) ?_|(refine xo_gs rfl (fun h => ?_) (fun h => ?_) <;> try (cases h; done))) <;> try simp -implicitDefEqProofs only [h0, strA_neq, List.length_map, go_sem, Nat.reduceEqDiff, Nat.reduceBEq, Nat.reduceAdd, Nat.reduceLeDiff, reduceIte, reduceCtorEq])|(refine ⟨fun h => ?_, fun h => ?_⟩ <;> first|(cases h; done)|try simp only [h])|fail))
    all_goals clear hall h0
    all_goals (simp only [bne, beq_iff_eq, beq_eq_false_iff_ne, ne_eq, Bool.not_eq_true', Bool.not_eq_false', decide_eq_true_eq, decide_eq_false_iff_not] at *; simp_all [validTE, shapeTE]; first | done | omega | (intros; omega) | (intros; exfalso; omega) | (rcases l with _ | ⟨a, l⟩ <;> simp <;> omega))
end Go.Ab
