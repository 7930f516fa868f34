/- Rows of ints compared; the longest names of programs. The longest names of a program: Long. Conditions: none. -/
import Derived.Test.YtlckhmkeihbhmaaXXa
set_option linter.unusedSimpArgs false
namespace Go.Ab
open Go.Proofs
theorem natR_enc (n : Nat) : natR n = [.int .i64 (n : Int)] := rfl
theorem neq_t {a b : Nat} (h : a ≠ b) : ((a : Int) != (b : Int)) = true := by rw [bneN]; simpa using h
theorem neq_f {a b : Nat} (h : a = b) : ((a : Int) != (b : Int)) = false := by rw [bneN, h]; simp
theorem keep_SameInts_ok (a b : List Nat) (σ : Heap) : ACalls Try.prog 30 [.d (.sl (a.map natR)), .d (.sl (b.map natR))] σ (fun v σ' => v = .d (.bool (a == b)) ∧ σ' = σ) := by
  refine i_keep_SameInts (by simp) ?_
  rw [argF_2]
  refine Run.slot 0 (fun hb0 => ?_)
  simp only [put_get, if_true, AV.lenOk, List.length_map] at hb0
  by_cases hl : a.length = b.length
  case neg =>
    have hl' : ((a.length : Int) != (b.length : Int)) = true := neq_t hl
    have hf : (a == b) = false := by
      rw [Bool.eq_false_iff]; intro h; rw [beq_iff_eq] at h; exact hl (by rw [h])
    (repeat' (first|refine Run.ct rfl ?_|((first|refine Run.reg mixed ?_|refine Run.condM ?_|refine Run.retP g_keep_SameInts (Heap.le_refl _) ?_|(refine xo_gs rfl (fun h => ?_) (fun h => ?_) <;> try (cases h; done))) <;> try simp -implicitDefEqProofs only [List.length_map, hl', hf, go_sem, Nat.reduceEqDiff, Nat.reduceBEq, Nat.reduceAdd, Nat.reduceLeDiff, reduceIte, reduceCtorEq])|(refine ⟨fun h => ?_, fun h => ?_⟩ <;> first|(cases h; done)|try simp only [h])|fail))
  have hl' : ((a.length : Int) != (b.length : Int)) = false := neq_f hl
  (repeat' (first|refine Run.ct rfl ?_|((first|refine Run.reg mixed ?_|refine Run.condM ?_|(refine xo_gs rfl (fun h => ?_) (fun h => ?_) <;> try (cases h; done))) <;> try simp -implicitDefEqProofs only [List.length_map, hl', go_sem, Nat.reduceEqDiff, Nat.reduceBEq, Nat.reduceAdd, Nat.reduceLeDiff, reduceIte, reduceCtorEq])|(refine ⟨fun h => ?_, fun h => ?_⟩ <;> first|(cases h; done)|try simp only [h])|fail))
  refine Run.loopA ?_
  refine Run.loopI ((fun (a0 : AV) (a1 : AV) (a12 : AV) => fun (i : Nat) => put 0 a0 (put 1 a1 (put 12 a12 (put 13 (.d (.int .i64 i)) U)))) _ _ _) (fun _ => E) (fun _ => σ) (fun i => i ≤ a.length ∧ a.take i = b.take i) (fun i => a.length - i) ?_ 0 ⟨by simp, by simp⟩
  rintro i ⟨hi, hno⟩ ih
  by_cases hlt : i < a.length
  · obtain ⟨x, hx⟩ := ex_at hlt
    obtain ⟨y, hy⟩ := ex_at (show i < b.length by omega)
    have he := row_at (enc := natR) hx
    have he2 := row_at (enc := natR) hy
    rw [natR_enc] at he he2
    have hw1 : IntKind.i64.wrap ((i : Int) + 1) = ((i + 1 : Nat) : Int) := by rw [wrap_pos (by omega) (by omega)]; omega
    by_cases hxy : x = y
    · subst hxy
      have hn : ((x : Int) != (x : Int)) = false := by simp
      (repeat' (first|refine Run.ct rfl ?_|((first|refine Run.reg mixed ?_|refine Run.condM ?_|(refine xo_gs rfl (fun h => ?_) (fun h => ?_) <;> try (cases h; done))) <;> try simp -implicitDefEqProofs only [lt_t hlt, he, he2, hw1, hn, List.length_map, go_sem, Nat.reduceEqDiff, Nat.reduceBEq, Nat.reduceAdd, Nat.reduceLeDiff, reduceIte, reduceCtorEq])|(refine ⟨fun h => ?_, fun h => ?_⟩ <;> first|(cases h; done)|try simp only [h])|fail))
      exact ih (i + 1) ⟨by omega, by rw [take_snoc hx, take_snoc hy, hno]⟩ (by omega)
    · have hn : ((x : Int) != (y : Int)) = true := neq_t hxy
      have hf : (a == b) = false := by
        rw [Bool.eq_false_iff]; intro h; rw [beq_iff_eq] at h; rw [h, hy] at hx; cases hx; exact hxy rfl
      (repeat' (first|refine Run.ct rfl ?_|((first|refine Run.reg mixed ?_|refine Run.condM ?_|refine Run.retP g_keep_SameInts (Heap.le_refl _) ?_|(refine xo_gs rfl (fun h => ?_) (fun h => ?_) <;> try (cases h; done))) <;> try simp -implicitDefEqProofs only [lt_t hlt, he, he2, hw1, hn, hf, List.length_map, go_sem, Nat.reduceEqDiff, Nat.reduceBEq, Nat.reduceAdd, Nat.reduceLeDiff, reduceIte, reduceCtorEq])|(refine ⟨fun h => ?_, fun h => ?_⟩ <;> first|(cases h; done)|try simp only [h])|fail))
  · rw [List.take_of_length_le (by omega), List.take_of_length_le (by omega)] at hno
    have ht : (a == b) = true := by rw [beq_iff_eq]; exact hno
    (repeat' (first|refine Run.ct rfl ?_|((first|refine Run.reg mixed ?_|refine Run.condM ?_|refine Run.retP g_keep_SameInts (Heap.le_refl _) ?_|(refine xo_gs rfl (fun h => ?_) (fun h => ?_) <;> try (cases h; done))) <;> try simp -implicitDefEqProofs only [lt_f hlt, ht, List.length_map, go_sem, Nat.reduceEqDiff, Nat.reduceBEq, Nat.reduceAdd, Nat.reduceLeDiff, reduceIte, reduceCtorEq])|(refine ⟨fun h => ?_, fun h => ?_⟩ <;> first|(cases h; done)|try simp only [h])|fail))
def rowN (r : List Nat) : List DV := [.sl (r.map natR)]
theorem callsA_rows (l : List (List Nat)) : callsA l = .d (.sl (l.map rowN)) := rfl
theorem rowN_enc (r : List Nat) : rowN r = [.sl (r.map natR)] := rfl
theorem keep_SameRows_ok (a b : List (List Nat)) (σ : Heap) : ACalls Try.prog 9 [callsA a, callsA b] σ (fun v σ' => v = .d (.bool (a == b)) ∧ σ' = σ) := by
  refine i_keep_SameRows (by simp) ?_
  rw [argF_2, callsA_rows, callsA_rows]
  refine Run.slot 0 (fun hb0 => ?_)
  simp only [put_get, if_true, AV.lenOk, List.length_map] at hb0
  by_cases hl : a.length = b.length
  case neg =>
    have hl' : ((a.length : Int) != (b.length : Int)) = true := neq_t hl
    have hf : (a == b) = false := by
      rw [Bool.eq_false_iff]; intro h; rw [beq_iff_eq] at h; exact hl (by rw [h])
    (repeat' (first|refine Run.ct rfl ?_|((first|refine Run.reg mixed ?_|refine Run.condM ?_|refine Run.retP g_keep_SameRows (Heap.le_refl _) ?_|(refine xo_gs rfl (fun h => ?_) (fun h => ?_) <;> try (cases h; done))) <;> try simp -implicitDefEqProofs only [List.length_map, hl', hf, go_sem, Nat.reduceEqDiff, Nat.reduceBEq, Nat.reduceAdd, Nat.reduceLeDiff, reduceIte, reduceCtorEq])|(refine ⟨fun h => ?_, fun h => ?_⟩ <;> first|(cases h; done)|try simp only [h])|fail))
  have hl' : ((a.length : Int) != (b.length : Int)) = false := neq_f hl
  (repeat' (first|refine Run.ct rfl ?_|((first|refine Run.reg mixed ?_|refine Run.condM ?_|(refine xo_gs rfl (fun h => ?_) (fun h => ?_) <;> try (cases h; done))) <;> try simp -implicitDefEqProofs only [List.length_map, hl', go_sem, Nat.reduceEqDiff, Nat.reduceBEq, Nat.reduceAdd, Nat.reduceLeDiff, reduceIte, reduceCtorEq])|(refine ⟨fun h => ?_, fun h => ?_⟩ <;> first|(cases h; done)|try simp only [h])|fail))
  refine Run.loopA ?_
  refine Run.loopI ((fun (a0 : AV) (a1 : AV) (a12 : AV) => fun (i : Nat) => put 0 a0 (put 1 a1 (put 12 a12 (put 13 (.d (.int .i64 i)) U)))) _ _ _) (fun _ => E) (fun _ => σ) (fun i => i ≤ a.length ∧ a.take i = b.take i) (fun i => a.length - i) ?_ 0 ⟨by simp, by simp⟩
  rintro i ⟨hi, hno⟩ ih
  by_cases hlt : i < a.length
  · obtain ⟨x, hx⟩ := ex_at hlt
    obtain ⟨y, hy⟩ := ex_at (show i < b.length by omega)
    have he := row_at (enc := rowN) hx
    have he2 := row_at (enc := rowN) hy
    rw [rowN_enc] at he he2
    have hw1 : IntKind.i64.wrap ((i : Int) + 1) = ((i + 1 : Nat) : Int) := by rw [wrap_pos (by omega) (by omega)]; omega
    have hc := keep_SameInts_ok x y σ
    by_cases hxy : x = y
    · subst hxy
      rw [show (x == x) = true by simp] at hc
      (repeat' (first|refine Run.ct rfl ?_|((first|refine Run.reg mixed ?_|refine Run.condM ?_|refine XCall.det (hc) ?_|(refine xo_gs rfl (fun h => ?_) (fun h => ?_) <;> try (cases h; done))) <;> try simp -implicitDefEqProofs only [lt_t hlt, he, he2, hw1, List.length_map, go_sem, Nat.reduceEqDiff, Nat.reduceBEq, Nat.reduceAdd, Nat.reduceLeDiff, reduceIte, reduceCtorEq])|(refine ⟨fun h => ?_, fun h => ?_⟩ <;> first|(cases h; done)|try simp only [h])|fail))
      exact ih (i + 1) ⟨by omega, by rw [take_snoc hx, take_snoc hy, hno]⟩ (by omega)
    · rw [show (x == y) = false by simpa using hxy] at hc
      have hf : (a == b) = false := by
        rw [Bool.eq_false_iff]; intro h; rw [beq_iff_eq] at h; rw [h, hy] at hx; cases hx; exact hxy rfl
      (repeat' (first|refine Run.ct rfl ?_|((first|refine Run.reg mixed ?_|refine Run.condM ?_|refine Run.retP g_keep_SameRows (Heap.le_refl _) ?_|refine XCall.det (hc) ?_|(refine xo_gs rfl (fun h => ?_) (fun h => ?_) <;> try (cases h; done))) <;> try simp -implicitDefEqProofs only [lt_t hlt, he, he2, hw1, hf, List.length_map, go_sem, Nat.reduceEqDiff, Nat.reduceBEq, Nat.reduceAdd, Nat.reduceLeDiff, reduceIte, reduceCtorEq])|(refine ⟨fun h => ?_, fun h => ?_⟩ <;> first|(cases h; done)|try simp only [h])|fail))
  · rw [List.take_of_length_le (by omega), List.take_of_length_le (by omega)] at hno
    have ht : (a == b) = true := by rw [beq_iff_eq]; exact hno
    (repeat' (first|refine Run.ct rfl ?_|((first|refine Run.reg mixed ?_|refine Run.condM ?_|refine Run.retP g_keep_SameRows (Heap.le_refl _) ?_|(refine xo_gs rfl (fun h => ?_) (fun h => ?_) <;> try (cases h; done))) <;> try simp -implicitDefEqProofs only [lt_f hlt, ht, List.length_map, go_sem, Nat.reduceEqDiff, Nat.reduceBEq, Nat.reduceAdd, Nat.reduceLeDiff, reduceIte, reduceCtorEq])|(refine ⟨fun h => ?_, fun h => ?_⟩ <;> first|(cases h; done)|try simp only [h])|fail))
def lgS (n : Nat) (l : List Str) : Nat := l.foldl (fun n s => max n s.length) n
mutual
def lgT : TE → Nat
  | .mk _ n l => lgTs n.length l
def lgTs (n : Nat) : List TE → Nat
  | [] => n
  | t :: l => lgTs (max n (lgT t)) l
end
mutual
def lgE : Ex → Nat
  | .mk _ n _ ns ks al => lgAs (lgEs (max n.length (lgS 0 ns)) ks) al
def lgEs (n : Nat) : List Ex → Nat
  | [] => n
  | t :: l => lgEs (max n (lgE t)) l
def lgA : Al → Nat
  | .mk _ vs b => max (lgS 0 vs) (lgE b)
def lgAs (n : Nat) : List Al → Nat
  | [] => n
  | t :: l => lgAs (max n (lgA t)) l
end
theorem lgS_snoc (n : Nat) (l : List Str) (s : Str) : lgS n (l ++ [s]) = max (lgS n l) s.length := by simp [lgS]
theorem lgTs_snoc (t : TE) : ∀ (l : List TE) (n : Nat), lgTs n (l ++ [t]) = max (lgTs n l) (lgT t)
  | [], n => by simp [lgTs]
  | u :: l, n => by simp [lgTs, lgTs_snoc t l]
theorem lgEs_snoc (t : Ex) : ∀ (l : List Ex) (n : Nat), lgEs n (l ++ [t]) = max (lgEs n l) (lgE t)
  | [], n => by simp [lgEs]
  | u :: l, n => by simp [lgEs, lgEs_snoc t l]
theorem lgAs_snoc (t : Al) : ∀ (l : List Al) (n : Nat), lgAs n (l ++ [t]) = max (lgAs n l) (lgA t)
  | [], n => by simp [lgAs]
  | u :: l, n => by simp [lgAs, lgAs_snoc t l]
theorem lgS_le {m : Nat} : ∀ {l : List Str} {n : Nat}, lgS n l ≤ m ↔ n ≤ m ∧ shNs m l
  | [], n => by simp [lgS, shNs]
  | s :: l, n => by
    rw [show lgS n (s :: l) = lgS (max n s.length) l from rfl, lgS_le (l := l)]
    simp [shNs, Nat.max_le, and_assoc]
mutual
theorem lgT_le {m : Nat} : ∀ {t : TE}, lgT t ≤ m ↔ t.sh m
  | .mk k n l => by rw [lgT, TE.sh, lgTs_le]
theorem lgTs_le {m : Nat} : ∀ {l : List TE} {n : Nat}, lgTs n l ≤ m ↔ n ≤ m ∧ TE.shs m l
  | [], n => by simp [lgTs, TE.shs]
  | t :: l, n => by rw [lgTs, lgTs_le (l := l), TE.shs, ← lgT_le (t := t), Nat.max_le, and_assoc]
end
mutual
theorem lgE_le {m : Nat} : ∀ {t : Ex}, lgE t ≤ m ↔ t.sh m
  | .mk o n u ns ks al => by
    rw [lgE, Ex.sh, lgAs_le, lgEs_le, Nat.max_le, lgS_le]
    simp [and_assoc]
theorem lgEs_le {m : Nat} : ∀ {l : List Ex} {n : Nat}, lgEs n l ≤ m ↔ n ≤ m ∧ Ex.shs m l
  | [], n => by simp [lgEs, Ex.shs]
  | t :: l, n => by rw [lgEs, lgEs_le (l := l), Ex.shs, ← lgE_le (t := t), Nat.max_le, and_assoc]
theorem lgA_le {m : Nat} : ∀ {t : Al}, lgA t ≤ m ↔ t.sh m
  | .mk c vs b => by rw [lgA, Al.sh, Nat.max_le, lgS_le, lgE_le (t := b)]; simp
theorem lgAs_le {m : Nat} : ∀ {l : List Al} {n : Nat}, lgAs n l ≤ m ↔ n ≤ m ∧ Al.shs m l
  | [], n => by simp [lgAs, Al.shs]
  | t :: l, n => by rw [lgAs, lgAs_le (l := l), Al.shs, ← lgA_le (t := t), Nat.max_le, and_assoc]
end
theorem mm_nat (a b : Nat) : mmA true (.d (.int .i64 (a : Int))) (.d (.int .i64 (b : Int))) = some (.d (.int .i64 ((max a b : Nat) : Int))) := by
  simp only [mmA]; simp [Int.max_def, Nat.max_def]; split <;> split <;> first | rfl | omega
theorem keep_longest_ok (l : List Str) (σ : Heap) : ACalls Try.prog 19 [.d (.sl (l.map sRow))] σ (fun v σ' => v = .d (.int .i64 (lgS 0 l : Nat)) ∧ σ' = σ) := by
  refine i_keep_longest (by simp) ?_
  rw [argF_1]
  refine Run.slot 0 (fun hb0 => ?_)
  simp only [put_get, if_true, AV.lenOk, List.length_map] at hb0
  (repeat' (first|refine Run.ct rfl ?_|((first|refine Run.reg mixed ?_|refine Run.condM ?_|(refine xo_gs rfl (fun h => ?_) (fun h => ?_) <;> try (cases h; done))) <;> try simp -implicitDefEqProofs only [List.length_map, go_sem, Nat.reduceEqDiff, Nat.reduceBEq, Nat.reduceAdd, Nat.reduceLeDiff, reduceIte, reduceCtorEq])|(refine ⟨fun h => ?_, fun h => ?_⟩ <;> first|(cases h; done)|try simp only [h])|fail))
  refine Run.loopA ?_
  refine Run.loopI ((fun (a6 : AV) (a7 : AV) => fun (i : Nat) => put 3 (.d (.int .i64 (lgS 0 (l.take i) : Nat))) (put 6 a6 (put 7 a7 (put 8 (.d (.int .i64 i)) U)))) _ _) (fun _ => E) (fun _ => σ) (fun i => i ≤ l.length) (fun i => l.length - i) ?_ 0 (by simp) |> (fun h => by simpa [lgS] using h)
  rintro i hi ih
  by_cases hlt : i < l.length
  · obtain ⟨x, hx⟩ := ex_at hlt
    have he := row_at (enc := sRow) hx
    simp only [sRow] at he
    have hw1 : IntKind.i64.wrap ((i : Int) + 1) = ((i + 1 : Nat) : Int) := by rw [wrap_pos (by omega) (by omega)]; omega
    have := ih (i + 1) (by omega) (by omega)
    simp only at this
    rw [take_snoc hx, lgS_snoc] at this
    (repeat' (first|refine Run.ct rfl ?_|((first|refine Run.reg mixed ?_|refine Run.condM ?_|(refine xo_gs rfl (fun h => ?_) (fun h => ?_) <;> try (cases h; done))) <;> try simp -implicitDefEqProofs only [lt_t hlt, he, hw1, mm_nat, go_sem, Nat.reduceEqDiff, Nat.reduceBEq, Nat.reduceAdd, Nat.reduceLeDiff, reduceIte, reduceCtorEq])|(refine ⟨fun h => ?_, fun h => ?_⟩ <;> first|(cases h; done)|try simp only [h])|fail))
    exact this
  · (repeat' (first|refine Run.ct rfl ?_|((first|refine Run.reg mixed ?_|refine Run.condM ?_|refine Run.retP g_keep_longest (Heap.le_refl _) ?_|(refine xo_gs rfl (fun h => ?_) (fun h => ?_) <;> try (cases h; done))) <;> try simp -implicitDefEqProofs only [lt_f hlt, go_sem, Nat.reduceEqDiff, Nat.reduceBEq, Nat.reduceAdd, Nat.reduceLeDiff, reduceIte, reduceCtorEq])|(refine ⟨fun h => ?_, fun h => ?_⟩ <;> first|(cases h; done)|try simp only [h])|fail))
    rw [List.take_of_length_le (by omega)]; rfl
theorem keep_longType_ok : ∀ (N : Nat) (t : TE) (σ : Heap), t.size ≤ N → ACalls Try.prog 20 [teA t] σ (fun v σ' => v = .d (.int .i64 (lgT t : Nat)) ∧ σ' = σ) := by
  intro N
  induction N with
  | zero => intro t σ h; have := TE.size_pos t; omega
  | succ N ihN =>
  rintro ⟨k, n, l⟩ σ hN
  simp only [TE.size] at hN
  refine i_keep_longType (by simp) ?_
  rw [argF_1, teA, TE.enc_mk, lgT]
  simp only [List.map_cons, List.map_nil]
  (repeat' (first|refine Run.ct rfl ?_|((first|refine Run.reg mixed ?_|refine Run.condM ?_|(refine xo_gs rfl (fun h => ?_) (fun h => ?_) <;> try (cases h; done))) <;> try simp -implicitDefEqProofs only [List.length_map, go_sem, Nat.reduceEqDiff, Nat.reduceBEq, Nat.reduceAdd, Nat.reduceLeDiff, reduceIte, reduceCtorEq])|(refine ⟨fun h => ?_, fun h => ?_⟩ <;> first|(cases h; done)|try simp only [h])|fail))
  refine Run.slot 10 (fun hb0 => ?_)
  simp only [put_get, Nat.reduceEqDiff, if_false, if_true, AV.lenOk, List.length_map] at hb0
  refine Run.loopA ?_
  refine Run.loopI ((fun (a10 : AV) (a11 : AV) => fun (i : Nat) => put 3 (.d (.int .i64 (lgTs n.length (l.take i) : Nat))) (put 10 a10 (put 11 a11 (put 12 (.d (.int .i64 i)) U)))) _ _) (fun _ => E) (fun _ => σ) (fun i => i ≤ l.length) (fun i => l.length - i) ?_ 0 (by simp) |> (fun h => by simpa [lgTs] using h)
  rintro i hi ih
  by_cases hlt : i < l.length
  · obtain ⟨x, hx⟩ := ex_at hlt
    have he := row_at (enc := TE.enc) hx
    have hw1 : IntKind.i64.wrap ((i : Int) + 1) = ((i + 1 : Nat) : Int) := by rw [wrap_pos (by omega) (by omega)]; omega
    have hxs := TE.mem_sz (List.mem_of_getElem? hx)
    have hc := ihN x σ (by omega)
    have := ih (i + 1) (by omega) (by omega)
    simp only at this
    rw [take_snoc hx, lgTs_snoc] at this
    obtain ⟨xk, xn, xl⟩ := x
    simp only [teA, TE.enc_mk, List.map_cons, List.map_nil] at he hc
    (repeat' (first|refine Run.ct rfl ?_|((first|refine Run.reg mixed ?_|refine Run.condM ?_|refine XCall.det (hc) ?_|(refine xo_gs rfl (fun h => ?_) (fun h => ?_) <;> try (cases h; done))) <;> try simp -implicitDefEqProofs only [lt_t hlt, he, hw1, mm_nat, go_sem, Nat.reduceEqDiff, Nat.reduceBEq, Nat.reduceAdd, Nat.reduceLeDiff, reduceIte, reduceCtorEq])|(refine ⟨fun h => ?_, fun h => ?_⟩ <;> first|(cases h; done)|try simp only [h])|fail))
    exact this
  · (repeat' (first|refine Run.ct rfl ?_|((first|refine Run.reg mixed ?_|refine Run.condM ?_|refine Run.retP g_keep_longType (Heap.le_refl _) ?_|(refine xo_gs rfl (fun h => ?_) (fun h => ?_) <;> try (cases h; done))) <;> try simp -implicitDefEqProofs only [lt_f hlt, go_sem, Nat.reduceEqDiff, Nat.reduceBEq, Nat.reduceAdd, Nat.reduceLeDiff, reduceIte, reduceCtorEq])|(refine ⟨fun h => ?_, fun h => ?_⟩ <;> first|(cases h; done)|try simp only [h])|fail))
    rw [List.take_of_length_le (by omega)]
set_option maxHeartbeats 4000000 in
theorem keep_long_ok : ∀ (N : Nat) (e : Ex) (σ : Heap), e.size ≤ N → ACalls Try.prog 21 [exA e] σ (fun v σ' => v = .d (.int .i64 (lgE e : Nat)) ∧ σ' = σ) := by
  intro N
  induction N with
  | zero => intro t σ h; have := Ex.size_pos t; omega
  | succ N ihN =>
  rintro ⟨o, n, u, ns, ks, al⟩ σ hN
  simp only [Ex.size] at hN
  have hln := fun l => keep_longest_ok l σ
  have hns := hln ns
  refine i_keep_long (by simp) ?_
  rw [argF_1, exA, Ex.enc_mk, lgE]
  simp only [List.map_cons, List.map_nil]
  (repeat' (first|refine Run.ct rfl ?_|((first|refine Run.reg mixed ?_|refine Run.condM ?_|refine XCall.det (hns) ?_|(refine xo_gs rfl (fun h => ?_) (fun h => ?_) <;> try (cases h; done))) <;> try simp -implicitDefEqProofs only [mm_nat, List.length_map, go_sem, Nat.reduceEqDiff, Nat.reduceBEq, Nat.reduceAdd, Nat.reduceLeDiff, reduceIte, reduceCtorEq])|(refine ⟨fun h => ?_, fun h => ?_⟩ <;> first|(cases h; done)|try simp only [h])|fail))
  refine Run.slot 16 (fun hb0 => ?_)
  simp only [put_get, Nat.reduceEqDiff, if_false, if_true, AV.lenOk, List.length_map] at hb0
  refine Run.loopA ?_
  refine Run.loopI ((fun (a1 : AV) (a16 : AV) (a17 : AV) => fun (i : Nat) => put 1 a1 (put 3 (.d (.int .i64 (lgEs (max n.length (lgS 0 ns)) (ks.take i) : Nat))) (put 16 a16 (put 17 a17 (put 18 (.d (.int .i64 i)) U))))) _ _ _) (fun _ => putL 1 [.d (.int .i64 o), .d (.str n), .d (.int .i64 u), .d (.sl (ns.map sRow)), .d (.sl (ks.map Ex.enc)), .d (.sl (al.map Al.enc))] E) (fun _ => σ) (fun i => i ≤ ks.length) (fun i => ks.length - i) ?_ 0 (by simp) |> (fun h => by simpa [lgEs] using h)
  rintro i hi ih
  by_cases hlt : i < ks.length
  · obtain ⟨x, hx⟩ := ex_at hlt
    have he := row_at (enc := Ex.enc) hx
    have hw1 : IntKind.i64.wrap ((i : Int) + 1) = ((i + 1 : Nat) : Int) := by rw [wrap_pos (by omega) (by omega)]; omega
    have hxs := Ex.mem_sz (List.mem_of_getElem? hx)
    have hc := ihN x σ (by omega)
    have := ih (i + 1) (by omega) (by omega)
    simp only at this
    rw [take_snoc hx, lgEs_snoc] at this
    obtain ⟨xo, xn, xu, xns, xks, xal⟩ := x
    simp only [exA, Ex.enc_mk, List.map_cons, List.map_nil] at he hc
    (repeat' (first|refine Run.ct rfl ?_|((first|refine Run.reg mixed ?_|refine Run.condM ?_|refine XCall.det (hc) ?_|(refine xo_gs rfl (fun h => ?_) (fun h => ?_) <;> try (cases h; done))) <;> try simp -implicitDefEqProofs only [lt_t hlt, he, hw1, mm_nat, go_sem, Nat.reduceEqDiff, Nat.reduceBEq, Nat.reduceAdd, Nat.reduceLeDiff, reduceIte, reduceCtorEq])|(refine ⟨fun h => ?_, fun h => ?_⟩ <;> first|(cases h; done)|try simp only [h])|fail))
    exact this
  · clear ih
    have htk : List.take i ks = ks := List.take_of_length_le (by omega)
    (repeat' (first|refine Run.ct rfl ?_|((first|refine Run.reg mixed ?_|refine Run.condM ?_|(refine xo_gs rfl (fun h => ?_) (fun h => ?_) <;> try (cases h; done))) <;> try simp -implicitDefEqProofs only [lt_f hlt, htk, List.length_map, go_sem, Nat.reduceEqDiff, Nat.reduceBEq, Nat.reduceAdd, Nat.reduceLeDiff, reduceIte, reduceCtorEq])|(refine ⟨fun h => ?_, fun h => ?_⟩ <;> first|(cases h; done)|try simp only [h])|fail))
    refine Run.slot 28 (fun hb1 => ?_)
    simp only [put_get, Nat.reduceEqDiff, if_false, if_true, AV.lenOk, List.length_map] at hb1
    refine Run.loopA ?_
    refine Run.loopI ((fun (a28 : AV) (a29 : AV) => fun (i : Nat) => put 3 (.d (.int .i64 (lgAs (lgEs (max n.length (lgS 0 ns)) ks) (al.take i) : Nat))) (put 28 a28 (put 29 a29 (put 30 (.d (.int .i64 i)) U)))) _ _) (fun _ => E) (fun _ => σ) (fun i => i ≤ al.length) (fun i => al.length - i) ?_ 0 (by simp) |> (fun h => by simpa [lgAs] using h)
    rintro i hi ih
    by_cases hlt : i < al.length
    · obtain ⟨x, hx⟩ := ex_at hlt
      have he := row_at (enc := Al.enc) hx
      have hw1 : IntKind.i64.wrap ((i : Int) + 1) = ((i + 1 : Nat) : Int) := by rw [wrap_pos (by omega) (by omega)]; omega
      have hxs := Al.mem_sz (List.mem_of_getElem? hx)
      have := ih (i + 1) (by omega) (by omega)
      simp only at this
      rw [take_snoc hx, lgAs_snoc] at this
      obtain ⟨xc, xvs, xb⟩ := x
      rw [Al.size] at hxs
      rw [lgA, ← Nat.max_assoc] at this
      have hc := ihN xb σ (by omega)
      have hvs := hln xvs
      obtain ⟨xo, xn, xu, xns, xks, xal⟩ := xb
      simp only [exA, Al.enc_mk, Ex.enc_mk, List.map_cons, List.map_nil] at he hc
      (repeat' (first|refine Run.ct rfl ?_|((first|refine Run.reg mixed ?_|refine Run.condM ?_|refine XCall.det (hc) ?_|refine XCall.det (hvs) ?_|(refine xo_gs rfl (fun h => ?_) (fun h => ?_) <;> try (cases h; done))) <;> try simp -implicitDefEqProofs only [lt_t hlt, he, hw1, mm_nat, go_sem, Nat.reduceEqDiff, Nat.reduceBEq, Nat.reduceAdd, Nat.reduceLeDiff, reduceIte, reduceCtorEq])|(refine ⟨fun h => ?_, fun h => ?_⟩ <;> first|(cases h; done)|try simp only [h])|fail))
      exact this
    · (repeat' (first|refine Run.ct rfl ?_|((first|refine Run.reg mixed ?_|refine Run.condM ?_|refine Run.retP g_keep_long (Heap.le_refl _) ?_|(refine xo_gs rfl (fun h => ?_) (fun h => ?_) <;> try (cases h; done))) <;> try simp -implicitDefEqProofs only [lt_f hlt, go_sem, Nat.reduceEqDiff, Nat.reduceBEq, Nat.reduceAdd, Nat.reduceLeDiff, reduceIte, reduceCtorEq])|(refine ⟨fun h => ?_, fun h => ?_⟩ <;> first|(cases h; done)|try simp only [h])|fail))
      rw [List.take_of_length_le (by omega)]
end Go.Ab

namespace Go.Ab
open Go.Proofs
theorem gtNN (m n : Nat) : decide ((m : Int) < (n : Int)) = decide (m < n) := decide_eq_decide.2 (by omega)
set_option maxRecDepth 4000 in
set_option maxHeartbeats 8000000 in
theorem keep_Long_ok (p : Pg) (m : Nat) (σ : Heap) : ACalls Try.prog 6 [pgA p, .d (.int .i64 m)] σ (fun v σ' => ∃ b, (v = .d (.bool b) ∧ σ' = σ) ∧ (b = false → p.sh m)) := by
  refine i_keep_Long (by simp) ?_
  rw [argF_2]
  obtain ⟨ds, fs⟩ := p
  simp only [pgA, Pg.enc, List.map_cons, List.map_nil]
  generalize hQ : (fun (v : AV) (σ' : Heap) => ∃ b, (v = .d (.bool b) ∧ σ' = σ) ∧ (b = false → Pg.sh m ⟨ds, fs⟩)) = Q
  have hno : Q (.d (.bool true)) σ := by rw [← hQ]; exact ⟨true, ⟨rfl, rfl⟩, fun h => by cases h⟩
  have hyes : Pg.sh m ⟨ds, fs⟩ → Q (.d (.bool false)) σ := fun h => by rw [← hQ]; exact ⟨false, ⟨rfl, rfl⟩, fun _ => h⟩
  clear hQ
  have hls := fun l => keep_longest_ok l σ
  have hlt' := fun t => keep_longType_ok _ t σ (Nat.le_refl _)
  have hle' := fun t => keep_long_ok _ t σ (Nat.le_refl _)
  (repeat' (first|refine Run.ct rfl ?_|((first|refine Run.reg mixed ?_|refine Run.condM ?_|(refine xo_gs rfl (fun h => ?_) (fun h => ?_) <;> try (cases h; done))) <;> try simp -implicitDefEqProofs only [List.length_map, go_sem, Nat.reduceEqDiff, Nat.reduceBEq, Nat.reduceAdd, Nat.reduceLeDiff, reduceIte, reduceCtorEq])|(refine ⟨fun h => ?_, fun h => ?_⟩ <;> first|(cases h; done)|try simp only [h])|fail))
  refine Run.slot 14 (fun hb0 => ?_)
  simp only [put_get, Nat.reduceEqDiff, if_false, if_true, AV.lenOk, List.length_map] at hb0
  refine Run.loopA ?_
  refine Run.loopI ((fun (a1 : AV) (a2 : AV) (a14 : AV) (a15 : AV) => fun (i : Nat) => put 1 a1 (put 2 a2 (put 14 a14 (put 15 a15 (put 16 (.d (.int .i64 i)) U))))) _ _ _ _) (fun _ => putL 2 [.d (.sl (ds.map DE.enc)), .d (.sl (fs.map FE.enc))] E) (fun _ => σ)
    (fun i => i ≤ ds.length ∧ ∀ d ∈ ds.take i, d.sh m) (fun i => ds.length - i) ?_ 0 ⟨by simp, by simp⟩
  rintro i ⟨hi, hsm⟩ ih
  by_cases hlt : i < ds.length
  · obtain ⟨d, hd⟩ := ex_at hlt
    have he := row_at (enc := DE.enc) hd
    have hw1 : IntKind.i64.wrap ((i : Int) + 1) = ((i + 1 : Nat) : Int) := by rw [wrap_pos (by omega) (by omega)]; omega
    have hms := fun hp => mem_take_snoc (p := DE.sh m) hsm hd hp
    obtain ⟨dn, dvs', dcs⟩ := d
    simp only [DE.enc] at he
    have hnm := hls dvs'
    by_cases h40 : m < lgS 0 dvs'
    · (repeat' (first|refine Run.ct rfl ?_|((first|refine Run.reg mixed ?_|refine Run.condM ?_|refine Run.retR g_keep_Long (Heap.le_refl _) ?_|refine XCall.det (hnm) ?_|(refine xo_gs rfl (fun h => ?_) (fun h => ?_) <;> try (cases h; done))) <;> try simp -implicitDefEqProofs only [lt_t hlt, he, gtNN, decide_eq_true h40, List.length_map, go_sem, Nat.reduceEqDiff, Nat.reduceBEq, Nat.reduceAdd, Nat.reduceLeDiff, reduceIte, reduceCtorEq])|(refine ⟨fun h => ?_, fun h => ?_⟩ <;> first|(cases h; done)|try simp only [h])|fail))
      exact hno
    (repeat' (first|refine Run.ct rfl ?_|((first|refine Run.reg mixed ?_|refine Run.condM ?_|refine XCall.det (hnm) ?_|(refine xo_gs rfl (fun h => ?_) (fun h => ?_) <;> try (cases h; done))) <;> try simp -implicitDefEqProofs only [lt_t hlt, he, gtNN, decide_eq_false h40, List.length_map, go_sem, Nat.reduceEqDiff, Nat.reduceBEq, Nat.reduceAdd, Nat.reduceLeDiff, reduceIte, reduceCtorEq])|(refine ⟨fun h => ?_, fun h => ?_⟩ <;> first|(cases h; done)|try simp only [h])|fail))
    refine Run.slot 26 (fun hb1 => ?_)
    simp only [put_get, Nat.reduceEqDiff, if_false, if_true, AV.lenOk, List.length_map] at hb1
    refine Run.loopA ?_
    refine Run.loopI ((fun (a1 : AV) (a2 : AV) (a14 : AV) (a15 : AV) (a16 : AV) (a26 : AV) (a27 : AV) => fun (i : Nat) => put 1 a1 (put 2 a2 (put 14 a14 (put 15 a15 (put 16 a16 (put 26 a26 (put 27 a27 (put 28 (.d (.int .i64 i)) U)))))))) _ _ _ _ _ _ _) (fun _ => putL 2 [.d (.sl (ds.map DE.enc)), .d (.sl (fs.map FE.enc))] E) (fun _ => σ)
      (fun i => i ≤ dcs.length ∧ ∀ d ∈ dcs.take i, ∀ t ∈ d.args, t.sh m) (fun i => dcs.length - i) ?_ 0 ⟨by simp, by simp⟩
    rintro i1 ⟨hi1, hsm1⟩ ih1
    by_cases hlt1 : i1 < dcs.length
    · obtain ⟨c, hc⟩ := ex_at hlt1
      have he1 := row_at (enc := CE.enc) hc
      have hw2 : IntKind.i64.wrap ((i1 : Int) + 1) = ((i1 + 1 : Nat) : Int) := by rw [wrap_pos (by omega) (by omega)]; omega
      have hms1 := fun hp => mem_take_snoc (p := fun (c : CE) => ∀ t ∈ c.args, t.sh m) hsm1 hc hp
      obtain ⟨cn, ar⟩ := c
      simp only [CE.enc] at he1
      (repeat' (first|refine Run.ct rfl ?_|((first|refine Run.reg mixed ?_|refine Run.condM ?_|(refine xo_gs rfl (fun h => ?_) (fun h => ?_) <;> try (cases h; done))) <;> try simp -implicitDefEqProofs only [lt_t hlt1, he1, List.length_map, go_sem, Nat.reduceEqDiff, Nat.reduceBEq, Nat.reduceAdd, Nat.reduceLeDiff, reduceIte, reduceCtorEq])|(refine ⟨fun h => ?_, fun h => ?_⟩ <;> first|(cases h; done)|try simp only [h])|fail))
      refine Run.slot 33 (fun hb2 => ?_)
      simp only [put_get, Nat.reduceEqDiff, if_false, if_true, AV.lenOk, List.length_map] at hb2
      refine Run.loopA ?_
      refine Run.loopI ((fun (a1 : AV) (a2 : AV) (a14 : AV) (a15 : AV) (a16 : AV) (a26 : AV) (a27 : AV) (a28 : AV) (a33 : AV) (a34 : AV) => fun (i : Nat) => put 1 a1 (put 2 a2 (put 14 a14 (put 15 a15 (put 16 a16 (put 26 a26 (put 27 a27 (put 28 a28 (put 33 a33 (put 34 a34 (put 35 (.d (.int .i64 i)) U))))))))))) _ _ _ _ _ _ _ _ _ _) (fun _ => putL 2 [.d (.sl (ds.map DE.enc)), .d (.sl (fs.map FE.enc))] E) (fun _ => σ)
        (fun i => i ≤ ar.length ∧ ∀ t ∈ ar.take i, t.sh m) (fun i => ar.length - i) ?_ 0 ⟨by simp, by simp⟩
      rintro i2 ⟨hi2, hsm2⟩ ih2
      by_cases hlt2 : i2 < ar.length
      · obtain ⟨x, hx⟩ := ex_at hlt2
        have he2 := row_at (enc := TE.enc) hx
        have hw3 : IntKind.i64.wrap ((i2 : Int) + 1) = ((i2 + 1 : Nat) : Int) := by rw [wrap_pos (by omega) (by omega)]; omega
        have hms2 := fun hp => mem_take_snoc (p := fun t => TE.sh m t) hsm2 hx hp
        have hcl := hlt' x
        have hgt : m < lgT x ∨ x.sh m := by
          rcases Nat.lt_or_ge m (lgT x) with h | h
          · exact .inl h
          · exact .inr (lgT_le.1 h)
        rcases hgt with hgt | hgt
        · obtain ⟨xk, xn, xl⟩ := x
          simp only [teA, TE.enc_mk, List.map_cons, List.map_nil] at he2 hcl
          (repeat' (first|refine Run.ct rfl ?_|((first|refine Run.reg mixed ?_|refine Run.condM ?_|refine Run.retR g_keep_Long (Heap.le_refl _) ?_|refine XCall.det (hcl) ?_|(refine xo_gs rfl (fun h => ?_) (fun h => ?_) <;> try (cases h; done))) <;> try simp -implicitDefEqProofs only [lt_t hlt2, he2, gtNN, decide_eq_true hgt, List.length_map, go_sem, Nat.reduceEqDiff, Nat.reduceBEq, Nat.reduceAdd, Nat.reduceLeDiff, reduceIte, reduceCtorEq])|(refine ⟨fun h => ?_, fun h => ?_⟩ <;> first|(cases h; done)|try simp only [h])|fail))
          exact hno
        · have hgt' : ¬ m < lgT x := Nat.not_lt.2 (lgT_le.2 hgt)
          obtain ⟨xk, xn, xl⟩ := x
          simp only [teA, TE.enc_mk, List.map_cons, List.map_nil] at he2 hcl
          (repeat' (first|refine Run.ct rfl ?_|((first|refine Run.reg mixed ?_|refine Run.condM ?_|refine XCall.det (hcl) ?_|(refine xo_gs rfl (fun h => ?_) (fun h => ?_) <;> try (cases h; done))) <;> try simp -implicitDefEqProofs only [lt_t hlt2, he2, hw3, gtNN, decide_eq_false hgt', List.length_map, go_sem, Nat.reduceEqDiff, Nat.reduceBEq, Nat.reduceAdd, Nat.reduceLeDiff, reduceIte, reduceCtorEq])|(refine ⟨fun h => ?_, fun h => ?_⟩ <;> first|(cases h; done)|try simp only [h])|fail))
          exact ih2 (i2 + 1) ⟨by omega, hms2 hgt⟩ (by omega)
      · rw [List.take_of_length_le (by omega)] at hsm2
        (repeat' (first|refine Run.ct rfl ?_|((first|refine Run.reg mixed ?_|refine Run.condM ?_|(refine xo_gs rfl (fun h => ?_) (fun h => ?_) <;> try (cases h; done))) <;> try simp -implicitDefEqProofs only [lt_f hlt2, hw2, List.length_map, go_sem, Nat.reduceEqDiff, Nat.reduceBEq, Nat.reduceAdd, Nat.reduceLeDiff, reduceIte, reduceCtorEq])|(refine ⟨fun h => ?_, fun h => ?_⟩ <;> first|(cases h; done)|try simp only [h])|fail))
        exact ih1 (i1 + 1) ⟨by omega, hms1 hsm2⟩ (by omega)
    · rw [List.take_of_length_le (by omega)] at hsm1
      (repeat' (first|refine Run.ct rfl ?_|((first|refine Run.reg mixed ?_|refine Run.condM ?_|(refine xo_gs rfl (fun h => ?_) (fun h => ?_) <;> try (cases h; done))) <;> try simp -implicitDefEqProofs only [lt_f hlt1, hw1, List.length_map, go_sem, Nat.reduceEqDiff, Nat.reduceBEq, Nat.reduceAdd, Nat.reduceLeDiff, reduceIte, reduceCtorEq])|(refine ⟨fun h => ?_, fun h => ?_⟩ <;> first|(cases h; done)|try simp only [h])|fail))
      exact ih (i + 1) ⟨by omega, hms ⟨(lgS_le.1 (Nat.not_lt.1 h40)).2, hsm1⟩⟩ (by omega)
  · rw [List.take_of_length_le (by omega)] at hsm
    clear ih
    (repeat' (first|refine Run.ct rfl ?_|((first|refine Run.reg mixed ?_|refine Run.condM ?_|(refine xo_gs rfl (fun h => ?_) (fun h => ?_) <;> try (cases h; done))) <;> try simp -implicitDefEqProofs only [lt_f hlt, List.length_map, go_sem, Nat.reduceEqDiff, Nat.reduceBEq, Nat.reduceAdd, Nat.reduceLeDiff, reduceIte, reduceCtorEq])|(refine ⟨fun h => ?_, fun h => ?_⟩ <;> first|(cases h; done)|try simp only [h])|fail))
    refine Run.slot 47 (fun hb1 => ?_)
    simp only [put_get, Nat.reduceEqDiff, if_false, if_true, AV.lenOk, List.length_map] at hb1
    refine Run.loopA ?_
    refine Run.loopI ((fun (a1 : AV) (a47 : AV) (a48 : AV) => fun (i : Nat) => put 1 a1 (put 47 a47 (put 48 a48 (put 49 (.d (.int .i64 i)) U)))) _ _ _) (fun _ => E) (fun _ => σ)
      (fun i => i ≤ fs.length ∧ ∀ d ∈ fs.take i, d.sh m) (fun i => fs.length - i) ?_ 0 ⟨by simp, by simp⟩
    rintro i1 ⟨hi1, hsm1⟩ ih
    by_cases hlt1 : i1 < fs.length
    · obtain ⟨f, hf⟩ := ex_at hlt1
      have he := row_at (enc := FE.enc) hf
      have hw1 : IntKind.i64.wrap ((i1 : Int) + 1) = ((i1 + 1 : Nat) : Int) := by rw [wrap_pos (by omega) (by omega)]; omega
      have hms := fun hp => mem_take_snoc (p := FE.sh m) hsm1 hf hp
      obtain ⟨fn, fps, fb⟩ := f
      have hnm := hls fps
      have hcl := hle' fb
      have hbd : lgE fb ≤ m ↔ fb.sh m := lgE_le
      generalize lgE fb = lb at hcl hbd
      obtain ⟨xo, xn, xu, xns, xks, xal⟩ := fb
      simp only [FE.enc, exA, Ex.enc_mk, List.map_cons, List.map_nil] at he hcl
      by_cases h1 : m < fn.length
      · (repeat' (first|refine Run.ct rfl ?_|((first|refine Run.reg mixed ?_|refine Run.condM ?_|refine Run.retR g_keep_Long (Heap.le_refl _) ?_|(refine xo_gs rfl (fun h => ?_) (fun h => ?_) <;> try (cases h; done))) <;> try simp -implicitDefEqProofs only [lt_t hlt1, he, gtNN, decide_eq_true h1, List.length_map, go_sem, Nat.reduceEqDiff, Nat.reduceBEq, Nat.reduceAdd, Nat.reduceLeDiff, reduceIte, reduceCtorEq])|(refine ⟨fun h => ?_, fun h => ?_⟩ <;> first|(cases h; done)|try simp only [h])|fail))
        exact hno
      by_cases h2 : m < lgS 0 fps
      · (repeat' (first|refine Run.ct rfl ?_|((first|refine Run.reg mixed ?_|refine Run.condM ?_|refine Run.retR g_keep_Long (Heap.le_refl _) ?_|refine XCall.det (hnm) ?_|(refine xo_gs rfl (fun h => ?_) (fun h => ?_) <;> try (cases h; done))) <;> try simp -implicitDefEqProofs only [lt_t hlt1, he, gtNN, decide_eq_false h1, decide_eq_true h2, List.length_map, go_sem, Nat.reduceEqDiff, Nat.reduceBEq, Nat.reduceAdd, Nat.reduceLeDiff, reduceIte, reduceCtorEq])|(refine ⟨fun h => ?_, fun h => ?_⟩ <;> first|(cases h; done)|try simp only [h])|fail))
        exact hno
      by_cases h3 : m < lb
      · (repeat' (first|refine Run.ct rfl ?_|((first|refine Run.reg mixed ?_|refine Run.condM ?_|refine Run.retR g_keep_Long (Heap.le_refl _) ?_|refine XCall.det (hnm) ?_|refine XCall.det (hcl) ?_|(refine xo_gs rfl (fun h => ?_) (fun h => ?_) <;> try (cases h; done))) <;> try simp -implicitDefEqProofs only [lt_t hlt1, he, gtNN, decide_eq_false h1, decide_eq_false h2, decide_eq_true h3, List.length_map, go_sem, Nat.reduceEqDiff, Nat.reduceBEq, Nat.reduceAdd, Nat.reduceLeDiff, reduceIte, reduceCtorEq])|(refine ⟨fun h => ?_, fun h => ?_⟩ <;> first|(cases h; done)|try simp only [h])|fail))
        exact hno
      (repeat' (first|refine Run.ct rfl ?_|((first|refine Run.reg mixed ?_|refine Run.condM ?_|refine XCall.det (hnm) ?_|refine XCall.det (hcl) ?_|(refine xo_gs rfl (fun h => ?_) (fun h => ?_) <;> try (cases h; done))) <;> try simp -implicitDefEqProofs only [lt_t hlt1, he, hw1, gtNN, decide_eq_false h1, decide_eq_false h2, decide_eq_false h3, List.length_map, go_sem, Nat.reduceEqDiff, Nat.reduceBEq, Nat.reduceAdd, Nat.reduceLeDiff, reduceIte, reduceCtorEq])|(refine ⟨fun h => ?_, fun h => ?_⟩ <;> first|(cases h; done)|try simp only [h])|fail))
      exact ih (i1 + 1) ⟨by omega, hms ⟨Nat.not_lt.1 h1, (lgS_le.1 (Nat.not_lt.1 h2)).2, hbd.1 (Nat.not_lt.1 h3)⟩⟩ (by omega)
    · rw [List.take_of_length_le (by omega)] at hsm1
      (repeat' (first|refine Run.ct rfl ?_|((first|refine Run.reg mixed ?_|refine Run.condM ?_|refine Run.retR g_keep_Long (Heap.le_refl _) ?_|(refine xo_gs rfl (fun h => ?_) (fun h => ?_) <;> try (cases h; done))) <;> try simp -implicitDefEqProofs only [lt_f hlt1, List.length_map, go_sem, Nat.reduceEqDiff, Nat.reduceBEq, Nat.reduceAdd, Nat.reduceLeDiff, reduceIte, reduceCtorEq])|(refine ⟨fun h => ?_, fun h => ?_⟩ <;> first|(cases h; done)|try simp only [h])|fail))
      exact hyes ⟨hsm, hsm1⟩
end Go.Ab
