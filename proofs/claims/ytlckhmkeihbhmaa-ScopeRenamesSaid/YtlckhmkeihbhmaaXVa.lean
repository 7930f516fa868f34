/- Scope: names that are bound, functions, repeated names. Conditions: none. -/
import Derived.Test.YtlckhmkeihbhmaaXCdSa
set_option linter.unusedSimpArgs false
namespace Go.Ab
open Go.Proofs
def bdD : List Str → DV
  | [] => .nilp
  | s :: l => .ptr [.str s, bdD l]
def bdL (sc : List Str) : DV := bdD ((sc.filter (fun s => !(s == []))).reverse)
theorem bdL_push (sc : List Str) (s : Str) (h : (s == []) = false) : bdL (sc ++ [s]) = .ptr [.str s, bdL sc] := by
  have h1 : List.filter (fun s => !(s == [])) [s] = [s] := by rw [List.filter_cons, h]; rfl
  rw [bdL, List.filter_append, h1, List.reverse_append]; rfl
theorem bdL_skip (sc : List Str) (s : Str) (h : (s == []) = true) : bdL (sc ++ [s]) = bdL sc := by
  have h1 : List.filter (fun s => !(s == [])) [s] = [] := by rw [List.filter_cons, h]; rfl
  rw [bdL, List.filter_append, h1, List.append_nil]; rfl
theorem has_ok : ∀ (l : List Str) (s : Str) (σ : Heap), ACalls Try.prog 32 [.d (bdD l), .d (.str s)] σ (fun v σ' => v = .d (.bool (l.contains s)) ∧ σ' = σ) := by
  intro l s σ
  refine i_scope_binding_has (by simp) ?_
  rw [argF_2]
  (repeat' (first|refine Run.ct rfl ?_|((first|refine Run.reg mixed ?_|refine Run.condM ?_|(refine xo_gs rfl (fun h => ?_) (fun h => ?_) <;> try (cases h; done))) <;> try simp -implicitDefEqProofs only [go_sem, Nat.reduceEqDiff, Nat.reduceBEq, Nat.reduceAdd, Nat.reduceLeDiff, reduceIte, reduceCtorEq])|(refine ⟨fun h => ?_, fun h => ?_⟩ <;> first|(cases h; done)|try simp only [h])|fail))
  refine Run.loopA ?_
  have hx : ∀ l0 : List Str, l0.contains s = l.contains s → Run x_scope_binding_has (fun v σ' => v = .d (.bool (l.contains s)) ∧ σ' = σ) [.again c_scope_binding_has_L0, .blk 0, .code (.seq (.reg [⟨some 4, .mv (.c (.d (.bool false))), none⟩] [4]) .ret)] (put 0 (.d (bdD l0)) (put 1 (.d (.str s)) U)) E σ := by
    intro l0
    induction l0 with
    | nil =>
      intro h
      refine Run.again ?_
      simp only [bdD]
      (repeat' (first|refine Run.ct rfl ?_|((first|refine Run.reg mixed ?_|refine Run.condM ?_|refine Run.retP g_scope_binding_has (Heap.le_refl _) ?_|(refine xo_gs rfl (fun h => ?_) (fun h => ?_) <;> try (cases h; done))) <;> try simp -implicitDefEqProofs only [go_sem, Nat.reduceEqDiff, Nat.reduceBEq, Nat.reduceAdd, Nat.reduceLeDiff, reduceIte, reduceCtorEq])|(refine ⟨fun h => ?_, fun h => ?_⟩ <;> first|(cases h; done)|try simp only [h])|fail))
      rw [← h]; rfl
    | cons x l0 ih =>
      intro h
      refine Run.again ?_
      simp only [bdD]
      rw [List.contains_cons] at h
      cases hs : (x == s) with
      | true =>
        (repeat' (first|refine Run.ct rfl ?_|((first|refine Run.reg mixed ?_|refine Run.condM ?_|refine Run.retP g_scope_binding_has (Heap.le_refl _) ?_|(refine xo_gs rfl (fun h => ?_) (fun h => ?_) <;> try (cases h; done))) <;> try simp -implicitDefEqProofs only [strA_eql, hs, go_sem, Nat.reduceEqDiff, Nat.reduceBEq, Nat.reduceAdd, Nat.reduceLeDiff, reduceIte, reduceCtorEq])|(refine ⟨fun h => ?_, fun h => ?_⟩ <;> first|(cases h; done)|try simp only [h])|fail))
        rw [← h, BEq.comm, hs]; rfl
      | false =>
        rw [show (s == x) = (x == s) from BEq.comm, hs, Bool.false_or] at h
        (repeat' (first|refine Run.ct rfl ?_|((first|refine Run.reg mixed ?_|refine Run.condM ?_|(refine xo_gs rfl (fun h => ?_) (fun h => ?_) <;> try (cases h; done))) <;> try simp -implicitDefEqProofs only [strA_eql, hs, go_sem, Nat.reduceEqDiff, Nat.reduceBEq, Nat.reduceAdd, Nat.reduceLeDiff, reduceIte, reduceCtorEq])|(refine ⟨fun h => ?_, fun h => ?_⟩ <;> first|(cases h; done)|try simp only [h])|fail))
        exact ih h
  exact hx l rfl
theorem hasL_ok (sc : List Str) (s : Str) (hs : s ≠ []) (σ : Heap) : ACalls Try.prog 32 [.d (bdL sc), .d (.str s)] σ (fun v σ' => v = .d (.bool (sc.contains s)) ∧ σ' = σ) :=
  (has_ok _ s σ).mono (by
    rintro v σ' ⟨rfl, rfl⟩
    refine ⟨?_, rfl⟩
    congr 2
    rw [Bool.eq_iff_iff]; simp [hs])
theorem with_ok (sc ns : List Str) (σ : Heap) : ACalls Try.prog 41 [.d (bdL sc), .d (.sl (ns.map sRow))] σ (fun v σ' => v = .d (bdL (sc ++ ns)) ∧ σ' = σ) := by
  refine i_scope_binding_with (by simp) ?_
  rw [argF_2]
  refine Run.slot 1 (fun hb0 => ?_)
  simp only [put_get, Nat.reduceEqDiff, if_false, if_true, AV.lenOk, List.length_map] at hb0
  (repeat' (first|refine Run.ct rfl ?_|((first|refine Run.reg mixed ?_|refine Run.condM ?_|(refine xo_gs rfl (fun h => ?_) (fun h => ?_) <;> try (cases h; done))) <;> try simp -implicitDefEqProofs only [List.length_map, go_sem, Nat.reduceEqDiff, Nat.reduceBEq, Nat.reduceAdd, Nat.reduceLeDiff, reduceIte, reduceCtorEq])|(refine ⟨fun h => ?_, fun h => ?_⟩ <;> first|(cases h; done)|try simp only [h])|fail))
  refine Run.loopA ?_
  refine Run.loopI ((fun (a7 : AV) (a8 : AV) => fun (i : Nat) => put 0 (.d (bdL (sc ++ ns.take i))) (put 7 a7 (put 8 a8 (put 9 (.d (.int .i64 i)) U)))) _ _) (fun _ => E) (fun _ => σ) (fun i => i ≤ ns.length) (fun i => ns.length - i) ?_ 0 (by simp) |> (fun h => by simpa using h)
  rintro i hi ih
  by_cases hlt : i < ns.length
  · obtain ⟨x, hx⟩ := ex_at hlt
    have he := row_at (enc := sRow) hx
    simp only [sRow] at he
    have hw1 : IntKind.i64.wrap ((i : Int) + 1) = ((i + 1 : Nat) : Int) := by rw [wrap_pos (by omega) (by omega)]; omega
    have hi1 := ih (i + 1) (by omega) (by omega)
    simp only at hi1
    rw [take_snoc hx, ← List.append_assoc] at hi1
    cases hs : (x == []) with
    | true =>
      rw [bdL_skip _ _ hs] at hi1
      (repeat' (first|refine Run.ct rfl ?_|((first|refine Run.reg mixed ?_|refine Run.condM ?_|(refine xo_gs rfl (fun h => ?_) (fun h => ?_) <;> try (cases h; done))) <;> try simp -implicitDefEqProofs only [lt_t hlt, he, hw1, strA_neq, hs, go_sem, Nat.reduceEqDiff, Nat.reduceBEq, Nat.reduceAdd, Nat.reduceLeDiff, reduceIte, reduceCtorEq])|(refine ⟨fun h => ?_, fun h => ?_⟩ <;> first|(cases h; done)|try simp only [h])|fail))
      exact hi1
    | false =>
      rw [bdL_push _ _ hs] at hi1
      (repeat' (first|refine Run.ct rfl ?_|((first|refine Run.reg mixed ?_|refine Run.condM ?_|(refine xo_gs rfl (fun h => ?_) (fun h => ?_) <;> try (cases h; done))) <;> try simp -implicitDefEqProofs only [lt_t hlt, he, hw1, strA_neq, hs, go_sem, Nat.reduceEqDiff, Nat.reduceBEq, Nat.reduceAdd, Nat.reduceLeDiff, reduceIte, reduceCtorEq])|(refine ⟨fun h => ?_, fun h => ?_⟩ <;> first|(cases h; done)|try simp only [h])|fail))
      exact hi1
  · (repeat' (first|refine Run.ct rfl ?_|((first|refine Run.reg mixed ?_|refine Run.condM ?_|refine Run.retP g_scope_binding_with (Heap.le_refl _) ?_|(refine xo_gs rfl (fun h => ?_) (fun h => ?_) <;> try (cases h; done))) <;> try simp -implicitDefEqProofs only [lt_f hlt, go_sem, Nat.reduceEqDiff, Nat.reduceBEq, Nat.reduceAdd, Nat.reduceLeDiff, reduceIte, reduceCtorEq])|(refine ⟨fun h => ?_, fun h => ?_⟩ <;> first|(cases h; done)|try simp only [h])|fail))
    rw [List.take_of_length_le (by omega)]
theorem IndexFunc_api_FunExpr_ok {fid : FuncId} {caps : List AV} (hb : hasBody Try.prog fid = true) (hcp : caps.all AV.noLp = true) (p : FE → Bool) (l : List FE) (σ : Heap) (hf : ∀ x ∈ l, ACalls Try.prog fid ((feA x) :: caps) σ (fun v σ' => v = .d (.bool (p x)) ∧ σ' = σ)) :
    ACalls Try.prog 37 [.d (.sl (l.map FE.enc)), .fn fid [] caps] σ (fun v σ' => v = .d (.int .i64 (idxI (l.findIdx? p))) ∧ σ' = σ) := by
  refine i_slices_IndexFunc_api_FunExpr (by simp) ?_
  rw [argF_2]
  refine Run.slot 0 (fun hb0 => ?_)
  simp only [put_get, if_true, AV.lenOk, List.length_map] at hb0
  (repeat' (first|refine Run.ct rfl ?_|((first|refine Run.reg mixed ?_|refine Run.condM ?_|(refine xo_gs rfl (fun h => ?_) (fun h => ?_) <;> try (cases h; done))) <;> try simp -implicitDefEqProofs only [List.length_map, go_sem, Nat.reduceEqDiff, Nat.reduceBEq, Nat.reduceAdd, Nat.reduceLeDiff, reduceIte, reduceCtorEq])|(refine ⟨fun h => ?_, fun h => ?_⟩ <;> first|(cases h; done)|try simp only [h])|fail))
  refine Run.loopA ?_
  refine Run.loopI ((fun (a0 : AV) (a1 : AV) (a7 : AV) => fun (i : Nat) => put 0 a0 (put 1 a1 (put 7 a7 (put 8 (.d (.int .i64 i)) U)))) _ _ _) (fun _ => E) (fun _ => σ) (fun i => i ≤ l.length ∧ ∀ x ∈ l.take i, p x = false) (fun i => l.length - i) ?_ 0 ⟨by simp, by simp⟩
  rintro i ⟨hi, hno⟩ ih
  by_cases hlt : i < l.length
  · obtain ⟨x, hx⟩ := ex_at hlt
    have he := row_at (enc := FE.enc) hx
    have hw1 : IntKind.i64.wrap ((i : Int) + 1) = ((i + 1 : Nat) : Int) := by rw [wrap_pos (by omega) (by omega)]; omega
    have hc := hf x (List.mem_of_getElem? hx)
    obtain ⟨nm, ps, o, n, u, ns, ks, al⟩ := x
    simp only [FE.enc, Ex.enc_mk, feA, List.map_cons, List.map_nil] at he hc
    cases hp : p (⟨nm, ps, .mk o n u ns ks al⟩) with
    | true =>
      rw [hp] at hc
      (repeat' (first|refine Run.ct rfl ?_|((first|refine Run.reg mixed ?_|refine Run.condM ?_|refine Run.retP g_slices_IndexFunc_api_FunExpr (Heap.le_refl _) ?_|(refine ⟨fid, [], caps, rfl, hb, XCall.det hc ?_ (by simp [hcp, noLp_d, noLp_agg])⟩)|(refine xo_gs rfl (fun h => ?_) (fun h => ?_) <;> try (cases h; done))) <;> try simp -implicitDefEqProofs only [lt_t hlt, he, hw1, go_sem, Nat.reduceEqDiff, Nat.reduceBEq, Nat.reduceAdd, Nat.reduceLeDiff, reduceIte, reduceCtorEq])|(refine ⟨fun h => ?_, fun h => ?_⟩ <;> first|(cases h; done)|try simp only [h])|fail))
      rw [findIdx_at hno hx hp]; rfl
    | false =>
      rw [hp] at hc
      (repeat' (first|refine Run.ct rfl ?_|((first|refine Run.reg mixed ?_|refine Run.condM ?_|(refine ⟨fid, [], caps, rfl, hb, XCall.det hc ?_ (by simp [hcp, noLp_d, noLp_agg])⟩)|(refine xo_gs rfl (fun h => ?_) (fun h => ?_) <;> try (cases h; done))) <;> try simp -implicitDefEqProofs only [lt_t hlt, he, hw1, go_sem, Nat.reduceEqDiff, Nat.reduceBEq, Nat.reduceAdd, Nat.reduceLeDiff, reduceIte, reduceCtorEq])|(refine ⟨fun h => ?_, fun h => ?_⟩ <;> first|(cases h; done)|try simp only [h])|fail))
      exact ih (i + 1) ⟨by omega, take_no hno hx hp⟩ (by omega)
  · (repeat' (first|refine Run.ct rfl ?_|((first|refine Run.reg mixed ?_|refine Run.condM ?_|refine Run.retP g_slices_IndexFunc_api_FunExpr (Heap.le_refl _) ?_|(refine xo_gs rfl (fun h => ?_) (fun h => ?_) <;> try (cases h; done))) <;> try simp -implicitDefEqProofs only [lt_f hlt, go_sem, Nat.reduceEqDiff, Nat.reduceBEq, Nat.reduceAdd, Nat.reduceLeDiff, reduceIte, reduceCtorEq])|(refine ⟨fun h => ?_, fun h => ?_⟩ <;> first|(cases h; done)|try simp only [h])|fail))
    rw [List.take_of_length_le (by omega)] at hno
    rw [findIdx_no hno]; rfl
theorem idxP_find (l : List Str) (s : Str) : l.findIdx? (fun x => x == s) = idxP l s := by
  induction l with
  | nil => rfl
  | cons x l ih =>
    rw [List.findIdx?_cons, idxP]
    split
    · rfl
    · rw [ih]
theorem idxP_fnames (fs : List FE) (s : Str) : fs.findIdx? (fun x => x.name == s) = idxP (fnames fs) s := by
  rw [← idxP_find, fnames, List.findIdx?_map]; rfl
theorem function_1_ok (f : FE) (s : Str) (j : Nat) (σ : Heap) (hj : σ.blk j = some [.d (.str s)]) : ACalls Try.prog 38 [feA f, .gp j 0] σ (fun v σ' => v = .d (.bool (f.name == s)) ∧ σ' = σ) := by
  refine i_scope_function_1 (by simp) ?_
  rw [argF_2]
  obtain ⟨nm, ps, o, n, u, ns, ks, al⟩ := f
  simp only [FE.enc, Ex.enc_mk, feA, List.map_cons, List.map_nil]
  (repeat' (first|refine Run.ct rfl ?_|((first|refine Run.reg mixed ?_|refine Run.condM ?_|refine Run.retP g_scope_function_1 (Heap.le_refl _) ?_|(refine xo_gs rfl (fun h => ?_) (fun h => ?_) <;> try (cases h; done))) <;> try simp -implicitDefEqProofs only [hj, strA_eql, go_sem, Nat.reduceEqDiff, Nat.reduceBEq, Nat.reduceAdd, Nat.reduceLeDiff, reduceIte, reduceCtorEq])|(refine ⟨fun h => ?_, fun h => ?_⟩ <;> first|(cases h; done)|try simp only [h])|fail))
theorem function_ok (p : Pg) (s : Str) (σ : Heap) : ACalls Try.prog 26 [pgA p, .d (.str s)] σ (fun v σ' => v = .d (.int .i64 (idxI (idxP (fnames p.funs) s))) ∧ σ' = σ) := by
  refine i_scope_function (by simp) ?_
  rw [argF_2]
  obtain ⟨ds, fs⟩ := p
  simp only [Pg.enc, pgA, List.map_cons, List.map_nil]
  (repeat' (first|refine Run.ct rfl ?_|((first|refine Run.reg mixed ?_|refine Run.condM ?_|(refine xo_gs rfl (fun h => ?_) (fun h => ?_) <;> try (cases h; done))) <;> try simp -implicitDefEqProofs only [go_sem, Nat.reduceEqDiff, Nat.reduceBEq, Nat.reduceAdd, Nat.reduceLeDiff, reduceIte, reduceCtorEq])|(refine ⟨fun h => ?_, fun h => ?_⟩ <;> first|(cases h; done)|try simp only [h])|fail))
  intro j hj
  have hle := le_setBlk (cs := [AV.d (.str s)]) hj
  have hc := IndexFunc_api_FunExpr_ok (fid := 38) (caps := [.gp j 0]) (by kernel_rfl) rfl (fun x => x.name == s) fs (σ.setBlk j [.d (.str s)]) (fun x _ => function_1_ok x s j _ (by simp only [setBlk_get, if_true]))
  rw [idxP_fnames] at hc
  (repeat' (first|refine Run.ct rfl ?_|((first|refine Run.reg mixed ?_|refine Run.condM ?_|(refine Run.retP g_scope_function (σ2 := σ) hle ?_)|refine XCall.det (hc) ?_|(refine xo_gs rfl (fun h => ?_) (fun h => ?_) <;> try (cases h; done))) <;> try simp -implicitDefEqProofs only [go_sem, Nat.reduceEqDiff, Nat.reduceBEq, Nat.reduceAdd, Nat.reduceLeDiff, reduceIte, reduceCtorEq])|(refine ⟨fun h => ?_, fun h => ?_⟩ <;> first|(cases h; done)|try simp only [h])|fail))
theorem Index_string_ok (l : List Str) (s : Str) (σ : Heap) : ACalls Try.prog 56 [.d (.sl (l.map sRow)), .d (.str s)] σ (fun v σ' => v = .d (.int .i64 (idxI (idxP l s))) ∧ σ' = σ) := by
  refine i_slices_Index_string (by simp) ?_
  rw [argF_2, ← idxP_find]
  refine Run.slot 0 (fun hb0 => ?_)
  simp only [put_get, if_true, AV.lenOk, List.length_map] at hb0
  (repeat' (first|refine Run.ct rfl ?_|((first|refine Run.reg mixed ?_|refine Run.condM ?_|(refine xo_gs rfl (fun h => ?_) (fun h => ?_) <;> try (cases h; done))) <;> try simp -implicitDefEqProofs only [List.length_map, go_sem, Nat.reduceEqDiff, Nat.reduceBEq, Nat.reduceAdd, Nat.reduceLeDiff, reduceIte, reduceCtorEq])|(refine ⟨fun h => ?_, fun h => ?_⟩ <;> first|(cases h; done)|try simp only [h])|fail))
  refine Run.loopA ?_
  refine Run.loopI ((fun (a0 : AV) (a1 : AV) (a7 : AV) => fun (i : Nat) => put 0 a0 (put 1 a1 (put 7 a7 (put 8 (.d (.int .i64 i)) U)))) _ _ _) (fun _ => E) (fun _ => σ) (fun i => i ≤ l.length ∧ ∀ x ∈ l.take i, (x == s) = false) (fun i => l.length - i) ?_ 0 ⟨by simp, by simp⟩
  rintro i ⟨hi, hno⟩ ih
  by_cases hlt : i < l.length
  · obtain ⟨x, hx⟩ := ex_at hlt
    have he := row_at (enc := sRow) hx
    simp only [sRow] at he
    have hw1 : IntKind.i64.wrap ((i : Int) + 1) = ((i + 1 : Nat) : Int) := by rw [wrap_pos (by omega) (by omega)]; omega
    cases hp : (x == s) with
    | true =>
      have hp' : (s == x) = true := by rw [BEq.comm]; exact hp
      (repeat' (first|refine Run.ct rfl ?_|((first|refine Run.reg mixed ?_|refine Run.condM ?_|refine Run.retP g_slices_Index_string (Heap.le_refl _) ?_|(refine xo_gs rfl (fun h => ?_) (fun h => ?_) <;> try (cases h; done))) <;> try simp -implicitDefEqProofs only [lt_t hlt, he, hw1, strA_eql, hp', go_sem, Nat.reduceEqDiff, Nat.reduceBEq, Nat.reduceAdd, Nat.reduceLeDiff, reduceIte, reduceCtorEq])|(refine ⟨fun h => ?_, fun h => ?_⟩ <;> first|(cases h; done)|try simp only [h])|fail))
      rw [findIdx_at (p := fun x => x == s) hno hx hp]; rfl
    | false =>
      have hp' : (s == x) = false := by rw [BEq.comm]; exact hp
      (repeat' (first|refine Run.ct rfl ?_|((first|refine Run.reg mixed ?_|refine Run.condM ?_|(refine xo_gs rfl (fun h => ?_) (fun h => ?_) <;> try (cases h; done))) <;> try simp -implicitDefEqProofs only [lt_t hlt, he, hw1, strA_eql, hp', go_sem, Nat.reduceEqDiff, Nat.reduceBEq, Nat.reduceAdd, Nat.reduceLeDiff, reduceIte, reduceCtorEq])|(refine ⟨fun h => ?_, fun h => ?_⟩ <;> first|(cases h; done)|try simp only [h])|fail))
      exact ih (i + 1) ⟨by omega, take_no (p := fun x => x == s) hno hx hp⟩ (by omega)
  · (repeat' (first|refine Run.ct rfl ?_|((first|refine Run.reg mixed ?_|refine Run.condM ?_|refine Run.retP g_slices_Index_string (Heap.le_refl _) ?_|(refine xo_gs rfl (fun h => ?_) (fun h => ?_) <;> try (cases h; done))) <;> try simp -implicitDefEqProofs only [lt_f hlt, go_sem, Nat.reduceEqDiff, Nat.reduceBEq, Nat.reduceAdd, Nat.reduceLeDiff, reduceIte, reduceCtorEq])|(refine ⟨fun h => ?_, fun h => ?_⟩ <;> first|(cases h; done)|try simp only [h])|fail))
    rw [List.take_of_length_le (by omega)] at hno
    rw [findIdx_no (p := fun x => x == s) hno]; rfl
theorem idxP_isSome (l : List Str) (s : Str) : (idxP l s).isSome = l.contains s := by
  induction l with
  | nil => rfl
  | cons x l ih =>
    rw [idxP, List.contains_cons]
    cases h : (x == s) with
    | true => rw [BEq.comm, h]; rfl
    | false => rw [show (s == x) = (x == s) from BEq.comm, h]; simp [ih]
theorem Contains_string_ok (l : List Str) (s : Str) (σ : Heap) : ACalls Try.prog 39 [.d (.sl (l.map sRow)), .d (.str s)] σ (fun v σ' => v = .d (.bool (l.contains s)) ∧ σ' = σ) := by
  refine i_slices_Contains_string (by simp) ?_
  rw [argF_2]
  (repeat' (first|refine Run.ct rfl ?_|((first|refine Run.reg mixed ?_|refine Run.condM ?_|refine Run.retP g_slices_Contains_string (Heap.le_refl _) ?_|refine XCall.det (Index_string_ok l s σ) ?_|(refine xo_gs rfl (fun h => ?_) (fun h => ?_) <;> try (cases h; done))) <;> try simp -implicitDefEqProofs only [idxI_nn, idxP_isSome, go_sem, Nat.reduceEqDiff, Nat.reduceBEq, Nat.reduceAdd, Nat.reduceLeDiff, reduceIte, reduceCtorEq])|(refine ⟨fun h => ?_, fun h => ?_⟩ <;> first|(cases h; done)|try simp only [h])|fail))
theorem twiceB_snoc (l : List Str) (x : Str) : twiceB (l ++ [x]) = (twiceB l || (!(x == []) && l.contains x)) := by
  induction l with
  | nil =>
    have : twiceB [x] = false := by rw [twiceB, twiceB]; simp
    rw [List.nil_append, this]; simp [twiceB]
  | cons y l ih =>
    rw [List.cons_append, twiceB, ih, twiceB, List.contains_cons]
    have h1 : (l ++ [x]).contains y = (l.contains y || (x == y)) := by
      rw [Bool.eq_iff_iff]; simp only [List.contains_iff_mem, List.mem_append, List.mem_singleton, Bool.or_eq_true, beq_iff_eq]
      constructor
      · rintro (h | h)
        · exact .inl h
        · exact .inr h.symm
      · rintro (h | h)
        · exact .inl h
        · exact .inr h.symm
    rw [h1]
    by_cases hxy : x = y
    · subst hxy
      have h2 : (x == x) = true := by simp
      rw [h2]
      generalize (x == ([] : Str)) = b1
      generalize twiceB l = b2
      generalize l.contains x = b3
      cases b1 <;> cases b2 <;> cases b3 <;> rfl
    · have h2 : (x == y) = false := by simpa using hxy
      rw [h2]
      generalize (x == ([] : Str)) = b1
      generalize (y == ([] : Str)) = b4
      generalize twiceB l = b2
      generalize l.contains x = b3
      generalize l.contains y = b5
      cases b1 <;> cases b2 <;> cases b3 <;> cases b4 <;> cases b5 <;> rfl
theorem twiceB_take {l : List Str} {i : Nat} (h : twiceB (l.take i) = true) : twiceB l = true := by
  rw [← List.take_append_drop i l]
  generalize l.drop i = m
  generalize l.take i = k at h
  induction m generalizing k with
  | nil => simpa using h
  | cons x m ih =>
    rw [show k ++ x :: m = (k ++ [x]) ++ m by simp]
    exact ih (k ++ [x]) (by rw [twiceB_snoc, h]; rfl)
theorem sls_take {l : List Str} {i : Nat} (h : i ≤ l.length) : slsR (l.map sRow) none (some (.d (.int .i64 (i : Int)))) none 1 = some (.d (.sl ((l.take i).map sRow))) := by
  simp [slsR, bndA, natA, h, List.map_take]
theorem repeated_ok (l : List Str) (σ : Heap) : ACalls Try.prog 27 [.d (.sl (l.map sRow))] σ (fun v σ' => v = .d (.bool (twiceB l)) ∧ σ' = σ) := by
  refine i_scope_repeated (by simp) ?_
  rw [argF_1]
  refine Run.slot 0 (fun hb0 => ?_)
  simp only [put_get, if_true, AV.lenOk, List.length_map] at hb0
  (repeat' (first|refine Run.ct rfl ?_|((first|refine Run.reg mixed ?_|refine Run.condM ?_|(refine xo_gs rfl (fun h => ?_) (fun h => ?_) <;> try (cases h; done))) <;> try simp -implicitDefEqProofs only [List.length_map, go_sem, Nat.reduceEqDiff, Nat.reduceBEq, Nat.reduceAdd, Nat.reduceLeDiff, reduceIte, reduceCtorEq])|(refine ⟨fun h => ?_, fun h => ?_⟩ <;> first|(cases h; done)|try simp only [h])|fail))
  refine Run.loopA ?_
  refine Run.loopI ((fun (a0 : AV) (a5 : AV) (a6 : AV) => fun (i : Nat) => put 0 a0 (put 5 a5 (put 6 a6 (put 7 (.d (.int .i64 i)) U)))) _ _ _) (fun _ => E) (fun _ => σ) (fun i => i ≤ l.length ∧ twiceB (l.take i) = false) (fun i => l.length - i) ?_ 0 ⟨by simp, by simp [twiceB]⟩
  rintro i ⟨hi, hno⟩ ih
  by_cases hlt : i < l.length
  · obtain ⟨x, hx⟩ := ex_at hlt
    have he := row_at (enc := sRow) hx
    simp only [sRow] at he
    have hw1 : IntKind.i64.wrap ((i : Int) + 1) = ((i + 1 : Nat) : Int) := by rw [wrap_pos (by omega) (by omega)]; omega
    have hs := sls_take hi
    have hsn := twiceB_snoc (l.take i) x
    rw [← take_snoc hx, hno, Bool.false_or] at hsn
    cases h0 : (x == []) with
    | true =>
      rw [h0] at hsn
      (repeat' (first|refine Run.ct rfl ?_|((first|refine Run.reg mixed ?_|refine Run.condM ?_|(refine xo_gs rfl (fun h => ?_) (fun h => ?_) <;> try (cases h; done))) <;> try simp -implicitDefEqProofs only [lt_t hlt, he, hw1, strA_neq, h0, go_sem, Nat.reduceEqDiff, Nat.reduceBEq, Nat.reduceAdd, Nat.reduceLeDiff, reduceIte, reduceCtorEq])|(refine ⟨fun h => ?_, fun h => ?_⟩ <;> first|(cases h; done)|try simp only [h])|fail))
      exact ih (i + 1) ⟨by omega, by simpa using hsn⟩ (by omega)
    | false =>
      rw [h0] at hsn
      have hc := Contains_string_ok (l.take i) x σ
      cases hct : (l.take i).contains x with
      | true =>
        rw [hct] at hc hsn
        (repeat' (first|refine Run.ct rfl ?_|((first|refine Run.reg mixed ?_|refine Run.condM ?_|refine Run.retP g_scope_repeated (Heap.le_refl _) ?_|refine XCall.det (hc) ?_|(refine xo_gs rfl (fun h => ?_) (fun h => ?_) <;> try (cases h; done))) <;> try simp -implicitDefEqProofs only [lt_t hlt, he, hw1, strA_neq, h0, hs, go_sem, Nat.reduceEqDiff, Nat.reduceBEq, Nat.reduceAdd, Nat.reduceLeDiff, reduceIte, reduceCtorEq])|(refine ⟨fun h => ?_, fun h => ?_⟩ <;> first|(cases h; done)|try simp only [h])|fail))
        rw [twiceB_take (i := i + 1) (by simpa using hsn)]
      | false =>
        rw [hct] at hc hsn
        (repeat' (first|refine Run.ct rfl ?_|((first|refine Run.reg mixed ?_|refine Run.condM ?_|refine XCall.det (hc) ?_|(refine xo_gs rfl (fun h => ?_) (fun h => ?_) <;> try (cases h; done))) <;> try simp -implicitDefEqProofs only [lt_t hlt, he, hw1, strA_neq, h0, hs, go_sem, Nat.reduceEqDiff, Nat.reduceBEq, Nat.reduceAdd, Nat.reduceLeDiff, reduceIte, reduceCtorEq])|(refine ⟨fun h => ?_, fun h => ?_⟩ <;> first|(cases h; done)|try simp only [h])|fail))
        exact ih (i + 1) ⟨by omega, by simpa using hsn⟩ (by omega)
  · (repeat' (first|refine Run.ct rfl ?_|((first|refine Run.reg mixed ?_|refine Run.condM ?_|refine Run.retP g_scope_repeated (Heap.le_refl _) ?_|(refine xo_gs rfl (fun h => ?_) (fun h => ?_) <;> try (cases h; done))) <;> try simp -implicitDefEqProofs only [lt_f hlt, go_sem, Nat.reduceEqDiff, Nat.reduceBEq, Nat.reduceAdd, Nat.reduceLeDiff, reduceIte, reduceCtorEq])|(refine ⟨fun h => ?_, fun h => ?_⟩ <;> first|(cases h; done)|try simp only [h])|fail))
    rw [List.take_of_length_le (by omega)] at hno
    rw [hno]
end Go.Ab
