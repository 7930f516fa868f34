/- Lists searched with a function. Conditions: none. -/
import Derived.Test.YtlckhmkeihbhmaaXTq
set_option linter.unusedSimpArgs false
namespace Go.Ab
open Go.Proofs
theorem findIdx_at {α : Type} {p : α → Bool} {l : List α} {i : Nat} {x : α} (h : ∀ y ∈ l.take i, p y = false) (hx : l[i]? = some x) (hp : p x = true) : l.findIdx? p = some i := by
  rw [List.findIdx?_eq_some_iff_getElem]
  obtain ⟨hl, he⟩ := List.getElem?_eq_some_iff.1 hx
  refine ⟨hl, by rw [he]; exact hp, fun j hj => ?_⟩
  rw [h (l[j]'(by omega)) (List.mem_take_iff_getElem.2 ⟨j, by omega, rfl⟩)]; simp
theorem findIdx_no {α : Type} {p : α → Bool} {l : List α} (h : ∀ y ∈ l, p y = false) : l.findIdx? p = none := by
  rw [List.findIdx?_eq_none_iff]; exact h
theorem take_no {α : Type} {p : α → Bool} {l : List α} {i : Nat} {x : α} (h : ∀ y ∈ l.take i, p y = false) (hx : l[i]? = some x) (hp : p x = false) : ∀ y ∈ l.take (i + 1), p y = false := by
  intro y hy
  rw [take_snoc hx] at hy
  rcases List.mem_append.1 hy with hy | hy
  · exact h y hy
  · simp only [List.mem_singleton] at hy; subst hy; exact hp
theorem idxI_nn (o : Option Nat) : decide (0 ≤ idxI o) = o.isSome := by
  cases o <;> simp [idxI]
theorem any_findIdx {α : Type} (p : α → Bool) (l : List α) : (l.findIdx? p).isSome = l.any p := by
  rw [List.findIdx?_isSome]
theorem IndexFunc_string_ok {fid : FuncId} {caps : List AV} (hb : hasBody Try.prog fid = true) (hcp : caps.all AV.noLp = true) (p : Str → Bool) (l : List Str) (σ : Heap) (hf : ∀ x ∈ l, ACalls Try.prog fid ((.d (.str x)) :: caps) σ (fun v σ' => v = .d (.bool (p x)) ∧ σ' = σ)) :
    ACalls Try.prog 78 [.d (.sl (l.map sRow)), .fn fid [] caps] σ (fun v σ' => v = .d (.int .i64 (idxI (l.findIdx? p))) ∧ σ' = σ) := by
  refine i_slices_IndexFunc_string (by simp) ?_
  rw [argF_2]
  refine Run.slot 0 (fun hb0 => ?_)
  simp only [put_get, if_true, AV.lenOk, List.length_map] at hb0
  (repeat' (first|refine Run.ct rfl ?_|((first|refine Run.reg mixed ?_|refine Run.condM ?_|(refine xo_gs rfl (fun h => ?_) (fun h => ?_) <;> try (cases h; done))) <;> try simp -implicitDefEqProofs only [List.length_map, go_sem, Nat.reduceEqDiff, Nat.reduceBEq, Nat.reduceAdd, Nat.reduceLeDiff, reduceIte, reduceCtorEq])|(refine ⟨fun h => ?_, fun h => ?_⟩ <;> first|(cases h; done)|try simp only [h])|fail))
  refine Run.loopA ?_
  refine Run.loopI ((fun (a0 : AV) (a1 : AV) (a7 : AV) => fun (i : Nat) => put 0 a0 (put 1 a1 (put 7 a7 (put 8 (.d (.int .i64 i)) U)))) _ _ _) (fun _ => E) (fun _ => σ) (fun i => i ≤ l.length ∧ ∀ x ∈ l.take i, p x = false) (fun i => l.length - i) ?_ 0 ⟨by simp, by simp⟩
  rintro i ⟨hi, hno⟩ ih
  by_cases hlt : i < l.length
  · obtain ⟨x, hx⟩ := ex_at hlt
    have he := row_at (enc := sRow) hx
    have hw1 : IntKind.i64.wrap ((i : Int) + 1) = ((i + 1 : Nat) : Int) := by rw [wrap_pos (by omega) (by omega)]; omega
    have hc := hf x (List.mem_of_getElem? hx)
    simp only [sRow] at he
    cases hp : p x with
    | true =>
      rw [hp] at hc
      (repeat' (first|refine Run.ct rfl ?_|((first|refine Run.reg mixed ?_|refine Run.condM ?_|refine Run.retP g_slices_IndexFunc_string (Heap.le_refl _) ?_|(refine ⟨fid, [], caps, rfl, hb, XCall.det hc ?_ (by simp [hcp, noLp_d, noLp_agg])⟩)|(refine xo_gs rfl (fun h => ?_) (fun h => ?_) <;> try (cases h; done))) <;> try simp -implicitDefEqProofs only [lt_t hlt, he, hw1, go_sem, Nat.reduceEqDiff, Nat.reduceBEq, Nat.reduceAdd, Nat.reduceLeDiff, reduceIte, reduceCtorEq])|(refine ⟨fun h => ?_, fun h => ?_⟩ <;> first|(cases h; done)|try simp only [h])|fail))
      rw [findIdx_at hno hx hp]; rfl
    | false =>
      rw [hp] at hc
      (repeat' (first|refine Run.ct rfl ?_|((first|refine Run.reg mixed ?_|refine Run.condM ?_|(refine ⟨fid, [], caps, rfl, hb, XCall.det hc ?_ (by simp [hcp, noLp_d, noLp_agg])⟩)|(refine xo_gs rfl (fun h => ?_) (fun h => ?_) <;> try (cases h; done))) <;> try simp -implicitDefEqProofs only [lt_t hlt, he, hw1, go_sem, Nat.reduceEqDiff, Nat.reduceBEq, Nat.reduceAdd, Nat.reduceLeDiff, reduceIte, reduceCtorEq])|(refine ⟨fun h => ?_, fun h => ?_⟩ <;> first|(cases h; done)|try simp only [h])|fail))
      exact ih (i + 1) ⟨by omega, take_no hno hx hp⟩ (by omega)
  · (repeat' (first|refine Run.ct rfl ?_|((first|refine Run.reg mixed ?_|refine Run.condM ?_|refine Run.retP g_slices_IndexFunc_string (Heap.le_refl _) ?_|(refine xo_gs rfl (fun h => ?_) (fun h => ?_) <;> try (cases h; done))) <;> try simp -implicitDefEqProofs only [lt_f hlt, go_sem, Nat.reduceEqDiff, Nat.reduceBEq, Nat.reduceAdd, Nat.reduceLeDiff, reduceIte, reduceCtorEq])|(refine ⟨fun h => ?_, fun h => ?_⟩ <;> first|(cases h; done)|try simp only [h])|fail))
    rw [List.take_of_length_le (by omega)] at hno
    rw [findIdx_no hno]; rfl
theorem ContainsFunc_string_ok {fid : FuncId} {caps : List AV} (hb : hasBody Try.prog fid = true) (hcp : caps.all AV.noLp = true) (p : Str → Bool) (l : List Str) (σ : Heap) (hf : ∀ x ∈ l, ACalls Try.prog fid ((.d (.str x)) :: caps) σ (fun v σ' => v = .d (.bool (p x)) ∧ σ' = σ)) :
    ACalls Try.prog 65 [.d (.sl (l.map sRow)), .fn fid [] caps] σ (fun v σ' => v = .d (.bool (l.any p)) ∧ σ' = σ) := by
  refine i_slices_ContainsFunc_string (by simp) ?_
  rw [argF_2]
  (repeat' (first|refine Run.ct rfl ?_|((first|refine Run.reg mixed ?_|refine Run.condM ?_|refine Run.retP g_slices_ContainsFunc_string (Heap.le_refl _) ?_|refine XCall.det (IndexFunc_string_ok hb hcp p l σ hf) ?_|(refine xo_gs rfl (fun h => ?_) (fun h => ?_) <;> try (cases h; done))) <;> try simp -implicitDefEqProofs only [idxI_nn, any_findIdx, go_sem, Nat.reduceEqDiff, Nat.reduceBEq, Nat.reduceAdd, Nat.reduceLeDiff, reduceIte, reduceCtorEq])|(refine ⟨fun h => ?_, fun h => ?_⟩ <;> first|(cases h; done)|try simp only [h])|fail))
theorem all_1_string_ok {fid : FuncId} {caps : List AV} (hb : hasBody Try.prog fid = true) (hcp : caps.all AV.noLp = true) (x : Str) (b : Bool) (j : Nat) (σ : Heap) (hj : σ.blk j = some [.fn fid [] caps]) (hf : ACalls Try.prog fid ((.d (.str x)) :: caps) σ (fun v σ' => v = .d (.bool b) ∧ σ' = σ)) :
    ACalls Try.prog 66 [(.d (.str x)), .gp j 0] σ (fun v σ' => v = .d (.bool (!b)) ∧ σ' = σ) := by
  refine i_syntax_all_1_string (by simp) ?_
  rw [argF_2]
  (repeat' (first|refine Run.ct rfl ?_|((first|refine Run.reg mixed ?_|refine Run.condM ?_|refine Run.retP g_syntax_all_1_string (Heap.le_refl _) ?_|(refine ⟨fid, [], caps, rfl, hb, XCall.det hf ?_ (by simp [hcp, noLp_d, noLp_agg])⟩)|(refine xo_gs rfl (fun h => ?_) (fun h => ?_) <;> try (cases h; done))) <;> try simp -implicitDefEqProofs only [hj, go_sem, Nat.reduceEqDiff, Nat.reduceBEq, Nat.reduceAdd, Nat.reduceLeDiff, reduceIte, reduceCtorEq])|(refine ⟨fun h => ?_, fun h => ?_⟩ <;> first|(cases h; done)|try simp only [h])|fail))
theorem all_string_ok {fid : FuncId} {caps : List AV} (hb : hasBody Try.prog fid = true) (hcp : caps.all AV.noLp = true) (p : Str → Bool) (l : List Str) (σ : Heap) (hf : ∀ x ∈ l, ∀ σ1, σ.le σ1 → ACalls Try.prog fid ((.d (.str x)) :: caps) σ1 (fun v σ' => v = .d (.bool (p x)) ∧ σ' = σ1)) :
    ACalls Try.prog 52 [.d (.sl (l.map sRow)), .fn fid [] caps] σ (fun v σ' => v = .d (.bool (l.all p)) ∧ σ' = σ) := by
  refine i_syntax_all_string (by simp) ?_
  rw [argF_2]
  (repeat' (first|refine Run.ct rfl ?_|((first|refine Run.reg mixed ?_|refine Run.condM ?_|(refine xo_gs rfl (fun h => ?_) (fun h => ?_) <;> try (cases h; done))) <;> try simp -implicitDefEqProofs only [go_sem, Nat.reduceEqDiff, Nat.reduceBEq, Nat.reduceAdd, Nat.reduceLeDiff, reduceIte, reduceCtorEq])|(refine ⟨fun h => ?_, fun h => ?_⟩ <;> first|(cases h; done)|try simp only [h])|fail))
  intro j hj
  have hle := le_setBlk (cs := [.fn fid [] caps]) hj
  (repeat' (first|refine Run.ct rfl ?_|((first|refine Run.reg mixed ?_|refine Run.condM ?_|(refine Run.retP g_syntax_all_string (σ2 := σ) hle ?_)|refine XCall.det (ContainsFunc_string_ok (by kernel_rfl) rfl (fun x => !p x) l _ (fun x hx => all_1_string_ok hb hcp x (p x) j _ (by simp only [setBlk_get, if_true]) (hf x hx _ hle))) ?_|(refine xo_gs rfl (fun h => ?_) (fun h => ?_) <;> try (cases h; done))) <;> try simp -implicitDefEqProofs only [go_sem, Nat.reduceEqDiff, Nat.reduceBEq, Nat.reduceAdd, Nat.reduceLeDiff, reduceIte, reduceCtorEq])|(refine ⟨fun h => ?_, fun h => ?_⟩ <;> first|(cases h; done)|try simp only [h])|fail))
  simp [List.any_eq_not_all_not]
theorem IndexFunc_api_TypeExpr_ok {fid : FuncId} {caps : List AV} (hb : hasBody Try.prog fid = true) (hcp : caps.all AV.noLp = true) (p : TE → Bool) (l : List TE) (σ : Heap) (hf : ∀ x ∈ l, ACalls Try.prog fid ((teA x) :: caps) σ (fun v σ' => v = .d (.bool (p x)) ∧ σ' = σ)) :
    ACalls Try.prog 89 [.d (.sl (l.map TE.enc)), .fn fid [] caps] σ (fun v σ' => v = .d (.int .i64 (idxI (l.findIdx? p))) ∧ σ' = σ) := by
  refine i_slices_IndexFunc_api_TypeExpr (by simp) ?_
  rw [argF_2]
  refine Run.slot 0 (fun hb0 => ?_)
  simp only [put_get, if_true, AV.lenOk, List.length_map] at hb0
  (repeat' (first|refine Run.ct rfl ?_|((first|refine Run.reg mixed ?_|refine Run.condM ?_|(refine xo_gs rfl (fun h => ?_) (fun h => ?_) <;> try (cases h; done))) <;> try simp -implicitDefEqProofs only [List.length_map, go_sem, Nat.reduceEqDiff, Nat.reduceBEq, Nat.reduceAdd, Nat.reduceLeDiff, reduceIte, reduceCtorEq])|(refine ⟨fun h => ?_, fun h => ?_⟩ <;> first|(cases h; done)|try simp only [h])|fail))
  refine Run.loopA ?_
  refine Run.loopI ((fun (a0 : AV) (a1 : AV) (a7 : AV) => fun (i : Nat) => put 0 a0 (put 1 a1 (put 7 a7 (put 8 (.d (.int .i64 i)) U)))) _ _ _) (fun _ => E) (fun _ => σ) (fun i => i ≤ l.length ∧ ∀ x ∈ l.take i, p x = false) (fun i => l.length - i) ?_ 0 ⟨by simp, by simp⟩
  rintro i ⟨hi, hno⟩ ih
  by_cases hlt : i < l.length
  · obtain ⟨x, hx⟩ := ex_at hlt
    have he := row_at (enc := TE.enc) hx
    have hw1 : IntKind.i64.wrap ((i : Int) + 1) = ((i + 1 : Nat) : Int) := by rw [wrap_pos (by omega) (by omega)]; omega
    have hc := hf x (List.mem_of_getElem? hx)
    obtain ⟨k, n, al⟩ := x
    simp only [TE.enc_mk, teA, List.map_cons, List.map_nil] at he hc
    cases hp : p (.mk k n al) with
    | true =>
      rw [hp] at hc
      (repeat' (first|refine Run.ct rfl ?_|((first|refine Run.reg mixed ?_|refine Run.condM ?_|refine Run.retP g_slices_IndexFunc_api_TypeExpr (Heap.le_refl _) ?_|(refine ⟨fid, [], caps, rfl, hb, XCall.det hc ?_ (by simp [hcp, noLp_d, noLp_agg])⟩)|(refine xo_gs rfl (fun h => ?_) (fun h => ?_) <;> try (cases h; done))) <;> try simp -implicitDefEqProofs only [lt_t hlt, he, hw1, go_sem, Nat.reduceEqDiff, Nat.reduceBEq, Nat.reduceAdd, Nat.reduceLeDiff, reduceIte, reduceCtorEq])|(refine ⟨fun h => ?_, fun h => ?_⟩ <;> first|(cases h; done)|try simp only [h])|fail))
      rw [findIdx_at hno hx hp]; rfl
    | false =>
      rw [hp] at hc
      (repeat' (first|refine Run.ct rfl ?_|((first|refine Run.reg mixed ?_|refine Run.condM ?_|(refine ⟨fid, [], caps, rfl, hb, XCall.det hc ?_ (by simp [hcp, noLp_d, noLp_agg])⟩)|(refine xo_gs rfl (fun h => ?_) (fun h => ?_) <;> try (cases h; done))) <;> try simp -implicitDefEqProofs only [lt_t hlt, he, hw1, go_sem, Nat.reduceEqDiff, Nat.reduceBEq, Nat.reduceAdd, Nat.reduceLeDiff, reduceIte, reduceCtorEq])|(refine ⟨fun h => ?_, fun h => ?_⟩ <;> first|(cases h; done)|try simp only [h])|fail))
      exact ih (i + 1) ⟨by omega, take_no hno hx hp⟩ (by omega)
  · (repeat' (first|refine Run.ct rfl ?_|((first|refine Run.reg mixed ?_|refine Run.condM ?_|refine Run.retP g_slices_IndexFunc_api_TypeExpr (Heap.le_refl _) ?_|(refine xo_gs rfl (fun h => ?_) (fun h => ?_) <;> try (cases h; done))) <;> try simp -implicitDefEqProofs only [lt_f hlt, go_sem, Nat.reduceEqDiff, Nat.reduceBEq, Nat.reduceAdd, Nat.reduceLeDiff, reduceIte, reduceCtorEq])|(refine ⟨fun h => ?_, fun h => ?_⟩ <;> first|(cases h; done)|try simp only [h])|fail))
    rw [List.take_of_length_le (by omega)] at hno
    rw [findIdx_no hno]; rfl
theorem ContainsFunc_api_TypeExpr_ok {fid : FuncId} {caps : List AV} (hb : hasBody Try.prog fid = true) (hcp : caps.all AV.noLp = true) (p : TE → Bool) (l : List TE) (σ : Heap) (hf : ∀ x ∈ l, ACalls Try.prog fid ((teA x) :: caps) σ (fun v σ' => v = .d (.bool (p x)) ∧ σ' = σ)) :
    ACalls Try.prog 74 [.d (.sl (l.map TE.enc)), .fn fid [] caps] σ (fun v σ' => v = .d (.bool (l.any p)) ∧ σ' = σ) := by
  refine i_slices_ContainsFunc_api_TypeExpr (by simp) ?_
  rw [argF_2]
  (repeat' (first|refine Run.ct rfl ?_|((first|refine Run.reg mixed ?_|refine Run.condM ?_|refine Run.retP g_slices_ContainsFunc_api_TypeExpr (Heap.le_refl _) ?_|refine XCall.det (IndexFunc_api_TypeExpr_ok hb hcp p l σ hf) ?_|(refine xo_gs rfl (fun h => ?_) (fun h => ?_) <;> try (cases h; done))) <;> try simp -implicitDefEqProofs only [idxI_nn, any_findIdx, go_sem, Nat.reduceEqDiff, Nat.reduceBEq, Nat.reduceAdd, Nat.reduceLeDiff, reduceIte, reduceCtorEq])|(refine ⟨fun h => ?_, fun h => ?_⟩ <;> first|(cases h; done)|try simp only [h])|fail))
theorem all_1_api_TypeExpr_ok {fid : FuncId} {caps : List AV} (hb : hasBody Try.prog fid = true) (hcp : caps.all AV.noLp = true) (x : TE) (b : Bool) (j : Nat) (σ : Heap) (hj : σ.blk j = some [.fn fid [] caps]) (hf : ACalls Try.prog fid ((teA x) :: caps) σ (fun v σ' => v = .d (.bool b) ∧ σ' = σ)) :
    ACalls Try.prog 75 [(teA x), .gp j 0] σ (fun v σ' => v = .d (.bool (!b)) ∧ σ' = σ) := by
  refine i_syntax_all_1_api_TypeExpr (by simp) ?_
  rw [argF_2]
  obtain ⟨k, n, al⟩ := x
  simp only [TE.enc_mk, teA, List.map_cons, List.map_nil] at hf ⊢
  (repeat' (first|refine Run.ct rfl ?_|((first|refine Run.reg mixed ?_|refine Run.condM ?_|refine Run.retP g_syntax_all_1_api_TypeExpr (Heap.le_refl _) ?_|(refine ⟨fid, [], caps, rfl, hb, XCall.det hf ?_ (by simp [hcp, noLp_d, noLp_agg])⟩)|(refine xo_gs rfl (fun h => ?_) (fun h => ?_) <;> try (cases h; done))) <;> try simp -implicitDefEqProofs only [hj, go_sem, Nat.reduceEqDiff, Nat.reduceBEq, Nat.reduceAdd, Nat.reduceLeDiff, reduceIte, reduceCtorEq])|(refine ⟨fun h => ?_, fun h => ?_⟩ <;> first|(cases h; done)|try simp only [h])|fail))
theorem all_api_TypeExpr_ok {fid : FuncId} {caps : List AV} (hb : hasBody Try.prog fid = true) (hcp : caps.all AV.noLp = true) (p : TE → Bool) (l : List TE) (σ : Heap) (hf : ∀ x ∈ l, ∀ σ1, σ.le σ1 → ACalls Try.prog fid ((teA x) :: caps) σ1 (fun v σ' => v = .d (.bool (p x)) ∧ σ' = σ1)) :
    ACalls Try.prog 61 [.d (.sl (l.map TE.enc)), .fn fid [] caps] σ (fun v σ' => v = .d (.bool (l.all p)) ∧ σ' = σ) := by
  refine i_syntax_all_api_TypeExpr (by simp) ?_
  rw [argF_2]
  (repeat' (first|refine Run.ct rfl ?_|((first|refine Run.reg mixed ?_|refine Run.condM ?_|(refine xo_gs rfl (fun h => ?_) (fun h => ?_) <;> try (cases h; done))) <;> try simp -implicitDefEqProofs only [go_sem, Nat.reduceEqDiff, Nat.reduceBEq, Nat.reduceAdd, Nat.reduceLeDiff, reduceIte, reduceCtorEq])|(refine ⟨fun h => ?_, fun h => ?_⟩ <;> first|(cases h; done)|try simp only [h])|fail))
  intro j hj
  have hle := le_setBlk (cs := [.fn fid [] caps]) hj
  (repeat' (first|refine Run.ct rfl ?_|((first|refine Run.reg mixed ?_|refine Run.condM ?_|(refine Run.retP g_syntax_all_api_TypeExpr (σ2 := σ) hle ?_)|refine XCall.det (ContainsFunc_api_TypeExpr_ok (by kernel_rfl) rfl (fun x => !p x) l _ (fun x hx => all_1_api_TypeExpr_ok hb hcp x (p x) j _ (by simp only [setBlk_get, if_true]) (hf x hx _ hle))) ?_|(refine xo_gs rfl (fun h => ?_) (fun h => ?_) <;> try (cases h; done))) <;> try simp -implicitDefEqProofs only [go_sem, Nat.reduceEqDiff, Nat.reduceBEq, Nat.reduceAdd, Nat.reduceLeDiff, reduceIte, reduceCtorEq])|(refine ⟨fun h => ?_, fun h => ?_⟩ <;> first|(cases h; done)|try simp only [h])|fail))
  simp [List.any_eq_not_all_not]
theorem IndexFunc_api_ConExpr_ok {fid : FuncId} {caps : List AV} (hb : hasBody Try.prog fid = true) (hcp : caps.all AV.noLp = true) (p : CE → Bool) (l : List CE) (σ : Heap) (hf : ∀ x ∈ l, ACalls Try.prog fid ((ceA x) :: caps) σ (fun v σ' => v = .d (.bool (p x)) ∧ σ' = σ)) :
    ACalls Try.prog 88 [.d (.sl (l.map CE.enc)), .fn fid [] caps] σ (fun v σ' => v = .d (.int .i64 (idxI (l.findIdx? p))) ∧ σ' = σ) := by
  refine i_slices_IndexFunc_api_ConExpr (by simp) ?_
  rw [argF_2]
  refine Run.slot 0 (fun hb0 => ?_)
  simp only [put_get, if_true, AV.lenOk, List.length_map] at hb0
  (repeat' (first|refine Run.ct rfl ?_|((first|refine Run.reg mixed ?_|refine Run.condM ?_|(refine xo_gs rfl (fun h => ?_) (fun h => ?_) <;> try (cases h; done))) <;> try simp -implicitDefEqProofs only [List.length_map, go_sem, Nat.reduceEqDiff, Nat.reduceBEq, Nat.reduceAdd, Nat.reduceLeDiff, reduceIte, reduceCtorEq])|(refine ⟨fun h => ?_, fun h => ?_⟩ <;> first|(cases h; done)|try simp only [h])|fail))
  refine Run.loopA ?_
  refine Run.loopI ((fun (a0 : AV) (a1 : AV) (a7 : AV) => fun (i : Nat) => put 0 a0 (put 1 a1 (put 7 a7 (put 8 (.d (.int .i64 i)) U)))) _ _ _) (fun _ => E) (fun _ => σ) (fun i => i ≤ l.length ∧ ∀ x ∈ l.take i, p x = false) (fun i => l.length - i) ?_ 0 ⟨by simp, by simp⟩
  rintro i ⟨hi, hno⟩ ih
  by_cases hlt : i < l.length
  · obtain ⟨x, hx⟩ := ex_at hlt
    have he := row_at (enc := CE.enc) hx
    have hw1 : IntKind.i64.wrap ((i : Int) + 1) = ((i + 1 : Nat) : Int) := by rw [wrap_pos (by omega) (by omega)]; omega
    have hc := hf x (List.mem_of_getElem? hx)
    obtain ⟨nm, ar⟩ := x
    simp only [CE.enc, ceA, List.map_cons, List.map_nil] at he hc
    cases hp : p (⟨nm, ar⟩) with
    | true =>
      rw [hp] at hc
      (repeat' (first|refine Run.ct rfl ?_|((first|refine Run.reg mixed ?_|refine Run.condM ?_|refine Run.retP g_slices_IndexFunc_api_ConExpr (Heap.le_refl _) ?_|(refine ⟨fid, [], caps, rfl, hb, XCall.det hc ?_ (by simp [hcp, noLp_d, noLp_agg])⟩)|(refine xo_gs rfl (fun h => ?_) (fun h => ?_) <;> try (cases h; done))) <;> try simp -implicitDefEqProofs only [lt_t hlt, he, hw1, go_sem, Nat.reduceEqDiff, Nat.reduceBEq, Nat.reduceAdd, Nat.reduceLeDiff, reduceIte, reduceCtorEq])|(refine ⟨fun h => ?_, fun h => ?_⟩ <;> first|(cases h; done)|try simp only [h])|fail))
      rw [findIdx_at hno hx hp]; rfl
    | false =>
      rw [hp] at hc
      (repeat' (first|refine Run.ct rfl ?_|((first|refine Run.reg mixed ?_|refine Run.condM ?_|(refine ⟨fid, [], caps, rfl, hb, XCall.det hc ?_ (by simp [hcp, noLp_d, noLp_agg])⟩)|(refine xo_gs rfl (fun h => ?_) (fun h => ?_) <;> try (cases h; done))) <;> try simp -implicitDefEqProofs only [lt_t hlt, he, hw1, go_sem, Nat.reduceEqDiff, Nat.reduceBEq, Nat.reduceAdd, Nat.reduceLeDiff, reduceIte, reduceCtorEq])|(refine ⟨fun h => ?_, fun h => ?_⟩ <;> first|(cases h; done)|try simp only [h])|fail))
      exact ih (i + 1) ⟨by omega, take_no hno hx hp⟩ (by omega)
  · (repeat' (first|refine Run.ct rfl ?_|((first|refine Run.reg mixed ?_|refine Run.condM ?_|refine Run.retP g_slices_IndexFunc_api_ConExpr (Heap.le_refl _) ?_|(refine xo_gs rfl (fun h => ?_) (fun h => ?_) <;> try (cases h; done))) <;> try simp -implicitDefEqProofs only [lt_f hlt, go_sem, Nat.reduceEqDiff, Nat.reduceBEq, Nat.reduceAdd, Nat.reduceLeDiff, reduceIte, reduceCtorEq])|(refine ⟨fun h => ?_, fun h => ?_⟩ <;> first|(cases h; done)|try simp only [h])|fail))
    rw [List.take_of_length_le (by omega)] at hno
    rw [findIdx_no hno]; rfl
theorem ContainsFunc_api_ConExpr_ok {fid : FuncId} {caps : List AV} (hb : hasBody Try.prog fid = true) (hcp : caps.all AV.noLp = true) (p : CE → Bool) (l : List CE) (σ : Heap) (hf : ∀ x ∈ l, ACalls Try.prog fid ((ceA x) :: caps) σ (fun v σ' => v = .d (.bool (p x)) ∧ σ' = σ)) :
    ACalls Try.prog 72 [.d (.sl (l.map CE.enc)), .fn fid [] caps] σ (fun v σ' => v = .d (.bool (l.any p)) ∧ σ' = σ) := by
  refine i_slices_ContainsFunc_api_ConExpr (by simp) ?_
  rw [argF_2]
  (repeat' (first|refine Run.ct rfl ?_|((first|refine Run.reg mixed ?_|refine Run.condM ?_|refine Run.retP g_slices_ContainsFunc_api_ConExpr (Heap.le_refl _) ?_|refine XCall.det (IndexFunc_api_ConExpr_ok hb hcp p l σ hf) ?_|(refine xo_gs rfl (fun h => ?_) (fun h => ?_) <;> try (cases h; done))) <;> try simp -implicitDefEqProofs only [idxI_nn, any_findIdx, go_sem, Nat.reduceEqDiff, Nat.reduceBEq, Nat.reduceAdd, Nat.reduceLeDiff, reduceIte, reduceCtorEq])|(refine ⟨fun h => ?_, fun h => ?_⟩ <;> first|(cases h; done)|try simp only [h])|fail))
theorem all_1_api_ConExpr_ok {fid : FuncId} {caps : List AV} (hb : hasBody Try.prog fid = true) (hcp : caps.all AV.noLp = true) (x : CE) (b : Bool) (j : Nat) (σ : Heap) (hj : σ.blk j = some [.fn fid [] caps]) (hf : ACalls Try.prog fid ((ceA x) :: caps) σ (fun v σ' => v = .d (.bool b) ∧ σ' = σ)) :
    ACalls Try.prog 73 [(ceA x), .gp j 0] σ (fun v σ' => v = .d (.bool (!b)) ∧ σ' = σ) := by
  refine i_syntax_all_1_api_ConExpr (by simp) ?_
  rw [argF_2]
  obtain ⟨nm, ar⟩ := x
  simp only [CE.enc, ceA, List.map_cons, List.map_nil] at hf ⊢
  (repeat' (first|refine Run.ct rfl ?_|((first|refine Run.reg mixed ?_|refine Run.condM ?_|refine Run.retP g_syntax_all_1_api_ConExpr (Heap.le_refl _) ?_|(refine ⟨fid, [], caps, rfl, hb, XCall.det hf ?_ (by simp [hcp, noLp_d, noLp_agg])⟩)|(refine xo_gs rfl (fun h => ?_) (fun h => ?_) <;> try (cases h; done))) <;> try simp -implicitDefEqProofs only [hj, go_sem, Nat.reduceEqDiff, Nat.reduceBEq, Nat.reduceAdd, Nat.reduceLeDiff, reduceIte, reduceCtorEq])|(refine ⟨fun h => ?_, fun h => ?_⟩ <;> first|(cases h; done)|try simp only [h])|fail))
theorem all_api_ConExpr_ok {fid : FuncId} {caps : List AV} (hb : hasBody Try.prog fid = true) (hcp : caps.all AV.noLp = true) (p : CE → Bool) (l : List CE) (σ : Heap) (hf : ∀ x ∈ l, ∀ σ1, σ.le σ1 → ACalls Try.prog fid ((ceA x) :: caps) σ1 (fun v σ' => v = .d (.bool (p x)) ∧ σ' = σ1)) :
    ACalls Try.prog 59 [.d (.sl (l.map CE.enc)), .fn fid [] caps] σ (fun v σ' => v = .d (.bool (l.all p)) ∧ σ' = σ) := by
  refine i_syntax_all_api_ConExpr (by simp) ?_
  rw [argF_2]
  (repeat' (first|refine Run.ct rfl ?_|((first|refine Run.reg mixed ?_|refine Run.condM ?_|(refine xo_gs rfl (fun h => ?_) (fun h => ?_) <;> try (cases h; done))) <;> try simp -implicitDefEqProofs only [go_sem, Nat.reduceEqDiff, Nat.reduceBEq, Nat.reduceAdd, Nat.reduceLeDiff, reduceIte, reduceCtorEq])|(refine ⟨fun h => ?_, fun h => ?_⟩ <;> first|(cases h; done)|try simp only [h])|fail))
  intro j hj
  have hle := le_setBlk (cs := [.fn fid [] caps]) hj
  (repeat' (first|refine Run.ct rfl ?_|((first|refine Run.reg mixed ?_|refine Run.condM ?_|(refine Run.retP g_syntax_all_api_ConExpr (σ2 := σ) hle ?_)|refine XCall.det (ContainsFunc_api_ConExpr_ok (by kernel_rfl) rfl (fun x => !p x) l _ (fun x hx => all_1_api_ConExpr_ok hb hcp x (p x) j _ (by simp only [setBlk_get, if_true]) (hf x hx _ hle))) ?_|(refine xo_gs rfl (fun h => ?_) (fun h => ?_) <;> try (cases h; done))) <;> try simp -implicitDefEqProofs only [go_sem, Nat.reduceEqDiff, Nat.reduceBEq, Nat.reduceAdd, Nat.reduceLeDiff, reduceIte, reduceCtorEq])|(refine ⟨fun h => ?_, fun h => ?_⟩ <;> first|(cases h; done)|try simp only [h])|fail))
  simp [List.any_eq_not_all_not]
theorem IndexFunc_api_Alt_ok {fid : FuncId} {caps : List AV} (hb : hasBody Try.prog fid = true) (hcp : caps.all AV.noLp = true) (p : Al → Bool) (l : List Al) (σ : Heap) (hf : ∀ x ∈ l, ACalls Try.prog fid ((alA x) :: caps) σ (fun v σ' => v = .d (.bool (p x)) ∧ σ' = σ)) :
    ACalls Try.prog 102 [.d (.sl (l.map Al.enc)), .fn fid [] caps] σ (fun v σ' => v = .d (.int .i64 (idxI (l.findIdx? p))) ∧ σ' = σ) := by
  refine i_slices_IndexFunc_api_Alt (by simp) ?_
  rw [argF_2]
  refine Run.slot 0 (fun hb0 => ?_)
  simp only [put_get, if_true, AV.lenOk, List.length_map] at hb0
  (repeat' (first|refine Run.ct rfl ?_|((first|refine Run.reg mixed ?_|refine Run.condM ?_|(refine xo_gs rfl (fun h => ?_) (fun h => ?_) <;> try (cases h; done))) <;> try simp -implicitDefEqProofs only [List.length_map, go_sem, Nat.reduceEqDiff, Nat.reduceBEq, Nat.reduceAdd, Nat.reduceLeDiff, reduceIte, reduceCtorEq])|(refine ⟨fun h => ?_, fun h => ?_⟩ <;> first|(cases h; done)|try simp only [h])|fail))
  refine Run.loopA ?_
  refine Run.loopI ((fun (a0 : AV) (a1 : AV) (a7 : AV) => fun (i : Nat) => put 0 a0 (put 1 a1 (put 7 a7 (put 8 (.d (.int .i64 i)) U)))) _ _ _) (fun _ => E) (fun _ => σ) (fun i => i ≤ l.length ∧ ∀ x ∈ l.take i, p x = false) (fun i => l.length - i) ?_ 0 ⟨by simp, by simp⟩
  rintro i ⟨hi, hno⟩ ih
  by_cases hlt : i < l.length
  · obtain ⟨x, hx⟩ := ex_at hlt
    have he := row_at (enc := Al.enc) hx
    have hw1 : IntKind.i64.wrap ((i : Int) + 1) = ((i + 1 : Nat) : Int) := by rw [wrap_pos (by omega) (by omega)]; omega
    have hc := hf x (List.mem_of_getElem? hx)
    obtain ⟨c, vs, o, n, u, ns, ks, al⟩ := x
    simp only [Al.enc_mk, alA, List.map_cons, List.map_nil] at he hc
    cases hp : p (.mk c vs (.mk o n u ns ks al)) with
    | true =>
      rw [hp] at hc
      (repeat' (first|refine Run.ct rfl ?_|((first|refine Run.reg mixed ?_|refine Run.condM ?_|refine Run.retP g_slices_IndexFunc_api_Alt (Heap.le_refl _) ?_|(refine ⟨fid, [], caps, rfl, hb, XCall.det hc ?_ (by simp [hcp, noLp_d, noLp_agg])⟩)|(refine xo_gs rfl (fun h => ?_) (fun h => ?_) <;> try (cases h; done))) <;> try simp -implicitDefEqProofs only [lt_t hlt, he, hw1, go_sem, Nat.reduceEqDiff, Nat.reduceBEq, Nat.reduceAdd, Nat.reduceLeDiff, reduceIte, reduceCtorEq])|(refine ⟨fun h => ?_, fun h => ?_⟩ <;> first|(cases h; done)|try simp only [h])|fail))
      rw [findIdx_at hno hx hp]; rfl
    | false =>
      rw [hp] at hc
      (repeat' (first|refine Run.ct rfl ?_|((first|refine Run.reg mixed ?_|refine Run.condM ?_|(refine ⟨fid, [], caps, rfl, hb, XCall.det hc ?_ (by simp [hcp, noLp_d, noLp_agg])⟩)|(refine xo_gs rfl (fun h => ?_) (fun h => ?_) <;> try (cases h; done))) <;> try simp -implicitDefEqProofs only [lt_t hlt, he, hw1, go_sem, Nat.reduceEqDiff, Nat.reduceBEq, Nat.reduceAdd, Nat.reduceLeDiff, reduceIte, reduceCtorEq])|(refine ⟨fun h => ?_, fun h => ?_⟩ <;> first|(cases h; done)|try simp only [h])|fail))
      exact ih (i + 1) ⟨by omega, take_no hno hx hp⟩ (by omega)
  · (repeat' (first|refine Run.ct rfl ?_|((first|refine Run.reg mixed ?_|refine Run.condM ?_|refine Run.retP g_slices_IndexFunc_api_Alt (Heap.le_refl _) ?_|(refine xo_gs rfl (fun h => ?_) (fun h => ?_) <;> try (cases h; done))) <;> try simp -implicitDefEqProofs only [lt_f hlt, go_sem, Nat.reduceEqDiff, Nat.reduceBEq, Nat.reduceAdd, Nat.reduceLeDiff, reduceIte, reduceCtorEq])|(refine ⟨fun h => ?_, fun h => ?_⟩ <;> first|(cases h; done)|try simp only [h])|fail))
    rw [List.take_of_length_le (by omega)] at hno
    rw [findIdx_no hno]; rfl
theorem ContainsFunc_api_Alt_ok {fid : FuncId} {caps : List AV} (hb : hasBody Try.prog fid = true) (hcp : caps.all AV.noLp = true) (p : Al → Bool) (l : List Al) (σ : Heap) (hf : ∀ x ∈ l, ACalls Try.prog fid ((alA x) :: caps) σ (fun v σ' => v = .d (.bool (p x)) ∧ σ' = σ)) :
    ACalls Try.prog 92 [.d (.sl (l.map Al.enc)), .fn fid [] caps] σ (fun v σ' => v = .d (.bool (l.any p)) ∧ σ' = σ) := by
  refine i_slices_ContainsFunc_api_Alt (by simp) ?_
  rw [argF_2]
  (repeat' (first|refine Run.ct rfl ?_|((first|refine Run.reg mixed ?_|refine Run.condM ?_|refine Run.retP g_slices_ContainsFunc_api_Alt (Heap.le_refl _) ?_|refine XCall.det (IndexFunc_api_Alt_ok hb hcp p l σ hf) ?_|(refine xo_gs rfl (fun h => ?_) (fun h => ?_) <;> try (cases h; done))) <;> try simp -implicitDefEqProofs only [idxI_nn, any_findIdx, go_sem, Nat.reduceEqDiff, Nat.reduceBEq, Nat.reduceAdd, Nat.reduceLeDiff, reduceIte, reduceCtorEq])|(refine ⟨fun h => ?_, fun h => ?_⟩ <;> first|(cases h; done)|try simp only [h])|fail))
theorem all_1_api_Alt_ok {fid : FuncId} {caps : List AV} (hb : hasBody Try.prog fid = true) (hcp : caps.all AV.noLp = true) (x : Al) (b : Bool) (j : Nat) (σ : Heap) (hj : σ.blk j = some [.fn fid [] caps]) (hf : ACalls Try.prog fid ((alA x) :: caps) σ (fun v σ' => v = .d (.bool b) ∧ σ' = σ)) :
    ACalls Try.prog 93 [(alA x), .gp j 0] σ (fun v σ' => v = .d (.bool (!b)) ∧ σ' = σ) := by
  refine i_syntax_all_1_api_Alt (by simp) ?_
  rw [argF_2]
  obtain ⟨c, vs, o, n, u, ns, ks, al⟩ := x
  simp only [Al.enc_mk, alA, List.map_cons, List.map_nil] at hf ⊢
  (repeat' (first|refine Run.ct rfl ?_|((first|refine Run.reg mixed ?_|refine Run.condM ?_|refine Run.retP g_syntax_all_1_api_Alt (Heap.le_refl _) ?_|(refine ⟨fid, [], caps, rfl, hb, XCall.det hf ?_ (by simp [hcp, noLp_d, noLp_agg])⟩)|(refine xo_gs rfl (fun h => ?_) (fun h => ?_) <;> try (cases h; done))) <;> try simp -implicitDefEqProofs only [hj, go_sem, Nat.reduceEqDiff, Nat.reduceBEq, Nat.reduceAdd, Nat.reduceLeDiff, reduceIte, reduceCtorEq])|(refine ⟨fun h => ?_, fun h => ?_⟩ <;> first|(cases h; done)|try simp only [h])|fail))
theorem all_api_Alt_ok {fid : FuncId} {caps : List AV} (hb : hasBody Try.prog fid = true) (hcp : caps.all AV.noLp = true) (p : Al → Bool) (l : List Al) (σ : Heap) (hf : ∀ x ∈ l, ∀ σ1, σ.le σ1 → ACalls Try.prog fid ((alA x) :: caps) σ1 (fun v σ' => v = .d (.bool (p x)) ∧ σ' = σ1)) :
    ACalls Try.prog 82 [.d (.sl (l.map Al.enc)), .fn fid [] caps] σ (fun v σ' => v = .d (.bool (l.all p)) ∧ σ' = σ) := by
  refine i_syntax_all_api_Alt (by simp) ?_
  rw [argF_2]
  (repeat' (first|refine Run.ct rfl ?_|((first|refine Run.reg mixed ?_|refine Run.condM ?_|(refine xo_gs rfl (fun h => ?_) (fun h => ?_) <;> try (cases h; done))) <;> try simp -implicitDefEqProofs only [go_sem, Nat.reduceEqDiff, Nat.reduceBEq, Nat.reduceAdd, Nat.reduceLeDiff, reduceIte, reduceCtorEq])|(refine ⟨fun h => ?_, fun h => ?_⟩ <;> first|(cases h; done)|try simp only [h])|fail))
  intro j hj
  have hle := le_setBlk (cs := [.fn fid [] caps]) hj
  (repeat' (first|refine Run.ct rfl ?_|((first|refine Run.reg mixed ?_|refine Run.condM ?_|(refine Run.retP g_syntax_all_api_Alt (σ2 := σ) hle ?_)|refine XCall.det (ContainsFunc_api_Alt_ok (by kernel_rfl) rfl (fun x => !p x) l _ (fun x hx => all_1_api_Alt_ok hb hcp x (p x) j _ (by simp only [setBlk_get, if_true]) (hf x hx _ hle))) ?_|(refine xo_gs rfl (fun h => ?_) (fun h => ?_) <;> try (cases h; done))) <;> try simp -implicitDefEqProofs only [go_sem, Nat.reduceEqDiff, Nat.reduceBEq, Nat.reduceAdd, Nat.reduceLeDiff, reduceIte, reduceCtorEq])|(refine ⟨fun h => ?_, fun h => ?_⟩ <;> first|(cases h; done)|try simp only [h])|fail))
  simp [List.any_eq_not_all_not]
end Go.Ab
