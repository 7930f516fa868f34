/- Scope: the resolver's rows. Scope: types of declarations resolved. Conditions: none. -/
import Derived.Test.YtlckhmkeihbhmaaXVe
set_option linter.unusedSimpArgs false
namespace Go.Ab
open Go.Proofs
def SlV (v : AV) (rows : List (List DV)) : Prop := v = .d (.sl rows) ∨ (∃ t e s, v = .own t e s rows) ∨ (rows = [] ∧ v = .nils)
theorem SlV.noLp {v : AV} {rows : List (List DV)} (h : SlV v rows) : v.noLp = true := by
  rcases h with rfl | ⟨t, e, s, rfl⟩ | ⟨rfl, rfl⟩ <;> rfl
theorem SlV.cell {v : AV} {rows : List (List DV)} (h : SlV v rows) : v.isCell = true := by
  rcases h with rfl | ⟨t, e, s, rfl⟩ | ⟨rfl, rfl⟩ <;> rfl
theorem SlV.len {v : AV} {rows : List (List DV)} (h : SlV v rows) : lenA v = some (.d (.int .i64 rows.length)) := by
  rcases h with rfl | ⟨t, e, s, rfl⟩ | ⟨rfl, rfl⟩ <;> rfl
theorem SlV.ix {v : AV} {rows : List (List DV)} (h : SlV v rows) {i : Nat} {r : List DV} (hr : rows[i]? = some r) : ixA v (.d (.int .i64 (i : Int))) r.length = some (.ep r 0) := by
  rcases h with rfl | ⟨t, e, s, rfl⟩ | ⟨rfl, rfl⟩
  · simp [ixA, ixR, hr]
  · simp [ixA, ixR, hr]
  · simp at hr
theorem SlV.plain {v : AV} {rows : List (List DV)} (h : SlV v rows) : v.plain = .d (.sl rows) := by
  rcases h with rfl | ⟨t, e, s, rfl⟩ | ⟨rfl, rfl⟩ <;> simp only [AV.plain]
theorem SlV.dv {v : AV} {rows : List (List DV)} (h : SlV v rows) : v.dv = some (.sl rows) := by
  rcases h with rfl | ⟨t, e, s, rfl⟩ | ⟨rfl, rfl⟩ <;> rfl
def RowsOk (cs : List AV) (dl : List Dat) : Prop := cs.length = dl.length * 3 ∧ ∀ i d, dl[i]? = some d → ∃ cv, (cs.drop (i * 3)).take 3 = [.d (.str d.name), .d (.int .i64 d.vars), cv] ∧ SlV cv (d.cons.map Con.enc)
theorem RowsOk.at {cs : List AV} {dl : List Dat} (h : RowsOk cs dl) {i : Nat} {d : Dat} (hd : dl[i]? = some d) :
    ∃ cv, (cs.drop (i * 3)).take 3 = [.d (.str d.name), .d (.int .i64 d.vars), cv] ∧ SlV cv (d.cons.map Con.enc) ∧ cs[i * 3]? = some (.d (.str d.name)) ∧ cs[i * 3 + 1]? = some (.d (.int .i64 d.vars)) ∧ cs[i * 3 + 2]? = some cv ∧ (i * 3 + 3 ≤ cs.length) = True := by
  obtain ⟨cv, h1, h2⟩ := h.2 i d hd
  have hi := (List.getElem?_eq_some_iff.1 hd).1
  have g : ∀ k, k < 3 → cs[i * 3 + k]? = ([.d (.str d.name), .d (.int .i64 d.vars), cv] : List AV)[k]? := fun k hk => by
    rw [← h1, List.getElem?_take, if_pos hk, List.getElem?_drop]
  refine ⟨cv, h1, h2, g 0 (by omega), g 1 (by omega), g 2 (by omega), ?_⟩
  rw [h.1]; simp; omega
def DlS (τ : Heap) (dl : List Dat) (v : AV) : Prop := (dl = [] ∧ v = .nils) ∨ (∃ jd e cs, v = .ms jd dl.length 3 e ∧ τ.blk jd = some cs ∧ RowsOk cs dl)
theorem DlS.len {τ : Heap} {dl : List Dat} {v : AV} (h : DlS τ dl v) : lenA v = some (.d (.int .i64 dl.length)) := by
  rcases h with ⟨rfl, rfl⟩ | ⟨jd, e, cs, rfl, _, _⟩ <;> rfl
theorem DlS.noLp {τ : Heap} {dl : List Dat} {v : AV} (h : DlS τ dl v) : v.noLp = true := by
  rcases h with ⟨rfl, rfl⟩ | ⟨jd, e, cs, rfl, _, _⟩ <;> rfl
theorem DlS.le {τ τ' : Heap} {dl : List Dat} {v : AV} (h : DlS τ dl v) (hl : τ.le τ') : DlS τ' dl v := by
  rcases h with ⟨rfl, rfl⟩ | ⟨jd, e, cs, rfl, hb, hr⟩
  · exact .inl ⟨rfl, rfl⟩
  · exact .inr ⟨jd, e, cs, rfl, hl.blk _ _ hb, hr⟩
theorem IndexFunc_Data_ok {fid : FuncId} {caps : List AV} (hb : hasBody Try.prog fid = true) (hcp : caps.all AV.noLp = true) (p : Dat → Bool) (l : List Dat) (v : AV) (σ : Heap) (hl : l.length ≤ 1000000) (hv : DlS σ l v)
    (hf : ∀ d ∈ l, ∀ cv, cv.noLp = true → cv.isCell = true → ACalls Try.prog fid (.agg [.d (.str d.name), .d (.int .i64 d.vars), cv] :: caps) σ (fun v σ' => v = .d (.bool (p d)) ∧ σ' = σ)) :
    ACalls Try.prog 68 [v, .fn fid [] caps] σ (fun v σ' => v = .d (.int .i64 (idxI (l.findIdx? p))) ∧ σ' = σ) := by
  refine i_slices_IndexFunc_api_Data (by simp) ?_
  rw [argF_2]
  have hlen := hv.len
  rcases hv with ⟨rfl, rfl⟩ | ⟨jd, e, cs, rfl, hbk, hrows⟩
  · have h0 : decide ((0 : Int) < 0) = false := by decide
    (repeat' (first|refine Run.ct rfl ?_|((first|refine Run.reg mixed ?_|refine Run.condM ?_|refine Run.retP g_slices_IndexFunc_api_Data (Heap.le_refl _) ?_|(refine Run.loop ?_)|(refine xo_gs rfl (fun h => ?_) (fun h => ?_) <;> try (cases h; done))) <;> try simp -implicitDefEqProofs only [h0, go_sem, Nat.reduceEqDiff, Nat.reduceBEq, Nat.reduceAdd, Nat.reduceLeDiff, reduceIte, reduceCtorEq])|(refine ⟨fun h => ?_, fun h => ?_⟩ <;> first|(cases h; done)|try simp only [h])|fail))
    rfl
  (repeat' (first|refine Run.ct rfl ?_|((first|refine Run.reg mixed ?_|refine Run.condM ?_|(refine xo_gs rfl (fun h => ?_) (fun h => ?_) <;> try (cases h; done))) <;> try simp -implicitDefEqProofs only [go_sem, Nat.reduceEqDiff, Nat.reduceBEq, Nat.reduceAdd, Nat.reduceLeDiff, reduceIte, reduceCtorEq])|(refine ⟨fun h => ?_, fun h => ?_⟩ <;> first|(cases h; done)|try simp only [h])|fail))
  refine Run.loopA ?_
  refine Run.loopI ((fun (a0 : AV) (a1 : AV) (a7 : AV) => fun (i : Nat) => put 0 a0 (put 1 a1 (put 7 a7 (put 8 (.d (.int .i64 i)) U)))) _ _ _) (fun _ => E) (fun _ => σ) (fun i => i ≤ l.length ∧ ∀ x ∈ l.take i, p x = false) (fun i => l.length - i) ?_ 0 ⟨by simp, by simp⟩
  rintro i ⟨hi, hno⟩ ih
  by_cases hlt : i < l.length
  · obtain ⟨x, hx⟩ := ex_at hlt
    obtain ⟨cv, h1, h2, _, _, _, h3⟩ := hrows.at hx
    have hix : ((i : Int) < (l.length : Int)) = True := by simp; omega
    have hw1 := wrap_succ (show i + 1 ≤ 9000000000000000000 by omega)
    have hc := hf x (List.mem_of_getElem? hx) cv h2.noLp h2.cell
    cases hp : p x with
    | true =>
      rw [hp] at hc
      (repeat' (first|refine Run.ct rfl ?_|((first|refine Run.reg mixed ?_|refine Run.condM ?_|refine Run.retP g_slices_IndexFunc_api_Data (Heap.le_refl _) ?_|(refine ⟨fid, [], caps, rfl, hb, XCall.det hc ?_ (by simp [hcp, noLp_d, noLp_agg])⟩)|(refine xo_gs rfl (fun h => ?_) (fun h => ?_) <;> try (cases h; done))) <;> try simp -implicitDefEqProofs only [lt_t hlt, hix, hbk, h1, h3, hw1, go_sem, Nat.reduceEqDiff, Nat.reduceBEq, Nat.reduceAdd, Nat.reduceLeDiff, reduceIte, reduceCtorEq])|(refine ⟨fun h => ?_, fun h => ?_⟩ <;> first|(cases h; done)|try simp only [h])|fail))
      rw [findIdx_at hno hx hp]; rfl
    | false =>
      rw [hp] at hc
      (repeat' (first|refine Run.ct rfl ?_|((first|refine Run.reg mixed ?_|refine Run.condM ?_|(refine ⟨fid, [], caps, rfl, hb, XCall.det hc ?_ (by simp [hcp, noLp_d, noLp_agg])⟩)|(refine xo_gs rfl (fun h => ?_) (fun h => ?_) <;> try (cases h; done))) <;> try simp -implicitDefEqProofs only [lt_t hlt, hix, hbk, h1, h3, hw1, go_sem, Nat.reduceEqDiff, Nat.reduceBEq, Nat.reduceAdd, Nat.reduceLeDiff, reduceIte, reduceCtorEq])|(refine ⟨fun h => ?_, fun h => ?_⟩ <;> first|(cases h; done)|try simp only [h])|fail))
      exact ih (i + 1) ⟨by omega, take_no hno hx hp⟩ (by omega)
  · (repeat' (first|refine Run.ct rfl ?_|((first|refine Run.reg mixed ?_|refine Run.condM ?_|refine Run.retP g_slices_IndexFunc_api_Data (Heap.le_refl _) ?_|(refine xo_gs rfl (fun h => ?_) (fun h => ?_) <;> try (cases h; done))) <;> try simp -implicitDefEqProofs only [lt_f hlt, go_sem, Nat.reduceEqDiff, Nat.reduceBEq, Nat.reduceAdd, Nat.reduceLeDiff, reduceIte, reduceCtorEq])|(refine ⟨fun h => ?_, fun h => ?_⟩ <;> first|(cases h; done)|try simp only [h])|fail))
    rw [List.take_of_length_le (by omega)] at hno
    rw [findIdx_no hno]; rfl
theorem find_1_ok (s nm : Str) (n : Int) (cv : AV) (hcv : cv.isCell = true) (j : Nat) (σ : Heap) (hj : σ.blk j = some [.d (.str s)]) : ACalls Try.prog 69 [.agg [.d (.str nm), .d (.int .i64 n), cv], .gp j 0] σ (fun v σ' => v = .d (.bool (nm == s)) ∧ σ' = σ) := by
  refine i_scope_resolver_find_1 (by simp) ?_
  rw [argF_2]
  (repeat' (first|refine Run.ct rfl ?_|((first|refine Run.reg mixed ?_|refine Run.condM ?_|refine Run.retP g_scope_resolver_find_1 (Heap.le_refl _) ?_|(refine xo_gs rfl (fun h => ?_) (fun h => ?_) <;> try (cases h; done))) <;> try simp -implicitDefEqProofs only [hj, strA_eql, hcv, go_sem, Nat.reduceEqDiff, Nat.reduceBEq, Nat.reduceAdd, Nat.reduceLeDiff, reduceIte, reduceCtorEq])|(refine ⟨fun h => ?_, fun h => ?_⟩ <;> first|(cases h; done)|try simp only [h])|fail))
def dnames (l : List Dat) : List Str := l.map (·.name)
theorem idxP_dnames (l : List Dat) (s : Str) : l.findIdx? (fun x => x.name == s) = idxP (dnames l) s := by
  rw [← idxP_find, dnames, List.findIdx?_map]; rfl
theorem find_ok (l : List Dat) (dv : AV) (rest : List AV) (jr : Nat) (s : Str) (σ : Heap) (hl : l.length ≤ 1000000) (hb : σ.blk jr = some (dv :: rest)) (hv : DlS σ l dv) :
    ACalls Try.prog 54 [.gp jr 0, .d (.str s)] σ (fun v σ' => v = .d (.int .i64 (idxI (idxP (dnames l) s))) ∧ σ' = σ) := by
  refine i_scope_resolver_find (by simp) ?_
  rw [argF_2]
  (repeat' (first|refine Run.ct rfl ?_|((first|refine Run.reg mixed ?_|refine Run.condM ?_|(refine xo_gs rfl (fun h => ?_) (fun h => ?_) <;> try (cases h; done))) <;> try simp -implicitDefEqProofs only [go_sem, Nat.reduceEqDiff, Nat.reduceBEq, Nat.reduceAdd, Nat.reduceLeDiff, reduceIte, reduceCtorEq])|(refine ⟨fun h => ?_, fun h => ?_⟩ <;> first|(cases h; done)|try simp only [h])|fail))
  intro j hj
  have hle := le_setBlk (cs := [AV.d (.str s)]) hj
  have hcell : dv.isCell = true := by rcases hv with ⟨_, rfl⟩ | ⟨jd, e, cs, rfl, _, _⟩ <;> rfl
  have hne : jr ≠ j := fun e => by rw [e, hj] at hb; cases hb
  have hc := IndexFunc_Data_ok (fid := 69) (caps := [.gp j 0]) (by kernel_rfl) rfl (fun x => x.name == s) l dv (σ.setBlk j [.d (.str s)]) hl (hv.le hle) (fun d _ cv _ h2 => find_1_ok s d.name d.vars cv h2 j _ (by simp only [setBlk_get, if_true]))
  rw [idxP_dnames] at hc
  have hnl := hv.noLp
  (repeat' (first|refine Run.ct rfl ?_|((first|refine Run.reg mixed ?_|refine Run.condM ?_|(refine XCall.mk (by simp only [List.all_cons, List.all_nil, hnl, noLp_fn, Bool.and_self]) hc ?_; rintro _ _ ⟨rfl, rfl⟩)|(refine Run.retP g_scope_resolver_find (σ2 := σ) hle ?_)|(refine xo_gs rfl (fun h => ?_) (fun h => ?_) <;> try (cases h; done))) <;> try simp -implicitDefEqProofs only [hne, hb, hcell, go_sem, Nat.reduceEqDiff, Nat.reduceBEq, Nat.reduceAdd, Nat.reduceLeDiff, reduceIte, reduceCtorEq])|(refine ⟨fun h => ?_, fun h => ?_⟩ <;> first|(cases h; done)|try simp only [h])|fail))
def isPar (t : TE) (s : Str) : Bool := match t with | .mk k n _ => k == 4 && n == s
theorem parameters_1_ok (t : TE) (s : Str) (σ : Heap) : ACalls Try.prog 87 [teA t, .d (.str s)] σ (fun v σ' => v = .d (.bool (isPar t s)) ∧ σ' = σ) := by
  refine i_scope_resolver_parameters_1 (by simp) ?_
  rw [argF_2]
  obtain ⟨k, n, l⟩ := t
  simp only [TE.enc_mk, teA, List.map_cons, List.map_nil]
  (repeat' (first|refine Run.ct rfl ?_|(refine xo_gm2 (by first|exact GV.t|exact GV.f|exact GV.st|exact GV.sf) ⟨?_, fun h => ?_, ?_⟩; rotate_left; (focus ((try simp only [Bool.and_eq_true, Bool.not_not] at h); simp -implicitDefEqProofs only [strA_eql, go_sem, Nat.reduceEqDiff, Nat.reduceBEq, Nat.reduceAdd, Nat.reduceLeDiff, reduceIte, reduceCtorEq]; first|exact Is.mk|exact Is.pv (by simp -implicitDefEqProofs only [h, sel_t, ↓pk_and, ↓pk_or, ↓pk_or2, strA_eql, go_sem, Nat.reduceEqDiff, Nat.reduceBEq, Nat.reduceAdd, Nat.reduceLeDiff, reduceIte, reduceCtorEq]; rfl))); (try simp -implicitDefEqProofs only [sel_sel, sel_sl, sel_sr, ↓pk_and, ↓pk_or, ↓pk_or2, strA_eql, rs_scope_resolver_parameters_1, go_sem, Nat.reduceEqDiff, Nat.reduceBEq, Nat.reduceAdd, Nat.reduceLeDiff, reduceIte, reduceCtorEq]))|((first|refine Run.reg mixed ?_|refine Run.condM ?_|refine Run.retP g_scope_resolver_parameters_1 (Heap.le_refl _) ?_|(refine xo_gs rfl (fun h => ?_) (fun h => ?_) <;> try (cases h; done))) <;> try simp -implicitDefEqProofs only [sel_sel, sel_sl, sel_sr, ↓pk_and, ↓pk_or, ↓pk_or2, strA_eql, go_sem, Nat.reduceEqDiff, Nat.reduceBEq, Nat.reduceAdd, Nat.reduceLeDiff, reduceIte, reduceCtorEq])|(refine ⟨fun h => ?_, fun h => ?_⟩ <;> first|(cases h; done)|try simp only [h])|fail))
  rfl
theorem paramsB_cons (t : TE) (l : List TE) (s : Str) (vs : List Str) : paramsB (t :: l) (s :: vs) = (isPar t s && paramsB l vs) := by cases t; rfl
theorem paramsB_len : ∀ {l : List TE} {vs : List Str}, l.length ≠ vs.length → paramsB l vs = false
  | [], [], h => absurd rfl h
  | [], v :: vs, _ => rfl
  | t :: l, [], _ => by cases t; rfl
  | t :: l, v :: vs, h => by rw [paramsB_cons, paramsB_len (by simpa using h), Bool.and_false]
theorem EqualFunc_ok (l : List TE) (vs : List Str) (σ : Heap) (hl : l.length ≤ 1000000) : ACalls Try.prog 86 [.d (.sl (l.map TE.enc)), .d (.sl (vs.map sRow)), .fn 87 [] []] σ (fun v σ' => v = .d (.bool (paramsB l vs)) ∧ σ' = σ) := by
  refine i_slices_EqualFunc_string (by simp) ?_
  rw [argF_3]
  have hb := bneN l.length vs.length
  cases hne : (l.length != vs.length) with
  | true =>
    rw [hne] at hb
    (repeat' (first|refine Run.ct rfl ?_|((first|refine Run.reg mixed ?_|refine Run.condM ?_|refine Run.retP g_slices_EqualFunc_string (Heap.le_refl _) ?_|(refine xo_gs rfl (fun h => ?_) (fun h => ?_) <;> try (cases h; done))) <;> try simp -implicitDefEqProofs only [List.length_map, hb, go_sem, Nat.reduceEqDiff, Nat.reduceBEq, Nat.reduceAdd, Nat.reduceLeDiff, reduceIte, reduceCtorEq])|(refine ⟨fun h => ?_, fun h => ?_⟩ <;> first|(cases h; done)|try simp only [h])|fail))
    rw [paramsB_len (by simpa using hne)]
  | false =>
  rw [hne] at hb
  have hlen : l.length = vs.length := by simpa using hne
  (repeat' (first|refine Run.ct rfl ?_|((first|refine Run.reg mixed ?_|refine Run.condM ?_|(refine xo_gs rfl (fun h => ?_) (fun h => ?_) <;> try (cases h; done))) <;> try simp -implicitDefEqProofs only [List.length_map, hb, go_sem, Nat.reduceEqDiff, Nat.reduceBEq, Nat.reduceAdd, Nat.reduceLeDiff, reduceIte, reduceCtorEq])|(refine ⟨fun h => ?_, fun h => ?_⟩ <;> first|(cases h; done)|try simp only [h])|fail))
  refine Run.loopA ?_
  refine Run.loopI ((fun (a1 : AV) (a2 : AV) (a15 : AV) (a16 : AV) => fun (i : Nat) => put 1 a1 (put 2 a2 (put 15 a15 (put 16 a16 (put 17 (.d (.int .i64 i)) U))))) _ _ _ _) (fun _ => E) (fun _ => σ) (fun i => i ≤ l.length ∧ paramsB l vs = paramsB (l.drop i) (vs.drop i)) (fun i => l.length - i) ?_ 0 ⟨by simp, rfl⟩
  rintro i ⟨hi, hok⟩ ih
  by_cases hlt : i < l.length
  · obtain ⟨x, hx⟩ := ex_at hlt
    obtain ⟨s, hs⟩ := ex_at (show i < vs.length by omega)
    have he := row_at (enc := TE.enc) hx
    have he2 := row_at (enc := sRow) hs
    simp only [sRow] at he2
    have hw1 := wrap_succ (show i + 1 ≤ 9000000000000000000 by omega)
    have hc := parameters_1_ok x s σ
    rw [drop_at hx, drop_at hs, paramsB_cons] at hok
    cases hp : isPar x s with
    | true =>
      rw [hp] at hc hok
      obtain ⟨xk, xn, xl⟩ := x
      simp only [TE.enc_mk, teA, List.map_cons, List.map_nil] at he hc
      (repeat' (first|refine Run.ct rfl ?_|((first|refine Run.reg mixed ?_|refine Run.condM ?_|(refine ⟨_, [], [], rfl, by kernel_rfl, XCall.det hc ?_⟩)|(refine xo_gs rfl (fun h => ?_) (fun h => ?_) <;> try (cases h; done))) <;> try simp -implicitDefEqProofs only [lt_t hlt, he, he2, hw1, go_sem, Nat.reduceEqDiff, Nat.reduceBEq, Nat.reduceAdd, Nat.reduceLeDiff, reduceIte, reduceCtorEq])|(refine ⟨fun h => ?_, fun h => ?_⟩ <;> first|(cases h; done)|try simp only [h])|fail))
      exact ih (i + 1) ⟨by omega, hok⟩ (by omega)
    | false =>
      rw [hp] at hc hok
      obtain ⟨xk, xn, xl⟩ := x
      simp only [TE.enc_mk, teA, List.map_cons, List.map_nil] at he hc
      (repeat' (first|refine Run.ct rfl ?_|((first|refine Run.reg mixed ?_|refine Run.condM ?_|refine Run.retP g_slices_EqualFunc_string (Heap.le_refl _) ?_|(refine ⟨_, [], [], rfl, by kernel_rfl, XCall.det hc ?_⟩)|(refine xo_gs rfl (fun h => ?_) (fun h => ?_) <;> try (cases h; done))) <;> try simp -implicitDefEqProofs only [lt_t hlt, he, he2, hw1, go_sem, Nat.reduceEqDiff, Nat.reduceBEq, Nat.reduceAdd, Nat.reduceLeDiff, reduceIte, reduceCtorEq])|(refine ⟨fun h => ?_, fun h => ?_⟩ <;> first|(cases h; done)|try simp only [h])|fail))
      rw [hok]; rfl
  · (repeat' (first|refine Run.ct rfl ?_|((first|refine Run.reg mixed ?_|refine Run.condM ?_|refine Run.retP g_slices_EqualFunc_string (Heap.le_refl _) ?_|(refine xo_gs rfl (fun h => ?_) (fun h => ?_) <;> try (cases h; done))) <;> try simp -implicitDefEqProofs only [lt_f hlt, go_sem, Nat.reduceEqDiff, Nat.reduceBEq, Nat.reduceAdd, Nat.reduceLeDiff, reduceIte, reduceCtorEq])|(refine ⟨fun h => ?_, fun h => ?_⟩ <;> first|(cases h; done)|try simp only [h])|fail))
    rw [List.drop_of_length_le (by omega), List.drop_of_length_le (by omega)] at hok
    rw [hok]; rfl
theorem parameters_ok (l : List TE) (dv : AV) (nm : Str) (vs : List Str) (cs : List CE) (jr : Nat) (σ : Heap) (hl : l.length ≤ 1000000) (hb : σ.blk jr = some [dv, .d (.str nm), .d (.sl (vs.map sRow)), .d (.sl (cs.map CE.enc))]) :
    ACalls Try.prog 70 [.gp jr 0, .d (.sl (l.map TE.enc))] σ (fun v σ' => v = .d (.bool (paramsB l vs)) ∧ σ' = σ) := by
  refine i_scope_resolver_parameters (by simp) ?_
  rw [argF_2]
  (repeat' (first|refine Run.ct rfl ?_|((first|refine Run.reg mixed ?_|refine Run.condM ?_|refine Run.retP g_scope_resolver_parameters (Heap.le_refl _) ?_|refine XCall.det (EqualFunc_ok l vs σ hl) ?_|(refine xo_gs rfl (fun h => ?_) (fun h => ?_) <;> try (cases h; done))) <;> try simp -implicitDefEqProofs only [hb, go_sem, Nat.reduceEqDiff, Nat.reduceBEq, Nat.reduceAdd, Nat.reduceLeDiff, reduceIte, reduceCtorEq])|(refine ⟨fun h => ?_, fun h => ?_⟩ <;> first|(cases h; done)|try simp only [h])|fail))
end Go.Ab

namespace Go.Ab
open Go.Proofs
def resA : Except Int Ty → AV
  | .ok t => .tup [tyA t, .d (.int .i64 0)]
  | .error e => .tup [.agg [.d (.int .i64 0), .d (.int .i64 0), .d (.sl [])], .d (.int .i64 e)]
theorem resPs_app (ds : List (Str × Nat)) (vars : List Str) (m : List TE) : ∀ {l : List TE} {us : List Ty}, resPs ds vars l = .ok us → resPs ds vars (l ++ m) = (resPs ds vars m).map (us ++ ·)
  | [], us, h => by
    simp only [resPs, Except.ok.injEq] at h; subst h
    simp only [List.nil_append]
    cases resPs ds vars m <;> rfl
  | t :: l, us, h => by
    rw [resPs] at h
    rw [List.cons_append, resPs]
    cases ht : resP ds vars false t with
    | error e => rw [ht] at h; cases h
    | ok u =>
      rw [ht] at h
      simp only at h ⊢
      cases hl : resPs ds vars l with
      | error e => rw [hl] at h; cases h
      | ok ys =>
        rw [hl] at h
        simp only [Except.map, Except.ok.injEq] at h
        subst h
        rw [resPs_app ds vars m hl]
        cases resPs ds vars m <;> rfl
theorem resP_ne {ds : List (Str × Nat)} {vars : List Str} : (∀ (t : TE) (whole : Bool) (e : Int), resP ds vars whole t = .error e → e ≠ 0) := by
  intro t
  induction h : t.size using Nat.strongRecOn generalizing t with
  | _ N ih =>
  subst h
  obtain ⟨k, n, l⟩ := t
  have hl : ∀ (l' : List TE), (∀ x ∈ l', x.size < (TE.mk k n l).size) → ∀ e, resPs ds vars l' = .error e → e ≠ 0 := by
    intro l'
    induction l' with
    | nil => intro _ e h; cases h
    | cons x l' ihl =>
      intro hx e h
      rw [resPs] at h
      cases hxe : resP ds vars false x with
      | error e' => rw [hxe] at h; cases h; exact ih x.size (hx x (List.mem_cons_self ..)) x rfl false _ hxe
      | ok u =>
        rw [hxe] at h
        cases hle : resPs ds vars l' with
        | error e' => rw [hle] at h; cases h; exact ihl (fun y hy => hx y (List.mem_cons_of_mem _ hy)) _ hle
        | ok us => rw [hle] at h; cases h
  have hsz : ∀ x ∈ l, x.size < (TE.mk k n l).size := fun x hx => by
    have := TE.mem_sz hx; simp only [TE.size]; omega
  have hmap : ∀ (num : Int) e, (resPs ds vars l).map (Ty.mk k num) = .error e → e ≠ 0 := fun num e h => by
    cases hle : resPs ds vars l with
    | error e' => rw [hle] at h; cases h; exact hl l hsz _ hle
    | ok us => rw [hle] at h; cases h
  intro whole e h
  rw [resP] at h
  split at h
  · split at h
    · cases h; decide
    · exact hmap _ _ h
  · split at h
    · split at h
      · cases h; decide
      · split at h
        · cases h; decide
        · split at h
          · cases h; decide
          · exact hmap _ _ h
    · exact hmap _ _ h
def dsOf (dl : List Dat) : List (Str × Nat) := dl.map fun d => (d.name, d.vars.toNat)
def RB (τ : Heap) (jr : Nat) (dl : List Dat) (nm : Str) (vars : List Str) (cs : List CE) : Prop := ∃ dv, τ.blk jr = some [dv, .d (.str nm), .d (.sl (vars.map sRow)), .d (.sl (cs.map CE.enc))] ∧ DlS τ dl dv
theorem RB.le {τ τ' : Heap} {jr : Nat} {dl : List Dat} {nm : Str} {vars : List Str} {cs : List CE} (h : RB τ jr dl nm vars cs) (hl : τ.le τ') : RB τ' jr dl nm vars cs := by
  obtain ⟨dv, h1, h2⟩ := h
  exact ⟨dv, hl.blk _ _ h1, h2.le hl⟩
set_option maxRecDepth 4000 in
set_option maxHeartbeats 4000000 in
theorem resolve_loop (jr : Nat) (dl : List Dat) (nm : Str) (vars : List Str) (cs : List CE) (k num : Int) (l : List TE) (τ : Heap) (hrb : RB τ jr dl nm vars cs) (hll : l.length ≤ 1000000)
    (ih : ∀ x ∈ l, ∀ τ', RB τ' jr dl nm vars cs → ACalls Try.prog 55 [.gp jr 0, teA x, .d (.bool false)] τ' (fun v σ' => v = resA (resP (dsOf dl) vars false x) ∧ σ' = τ')) :
    Run x_scope_resolver_resolve (fun v σ' => v = resA ((resPs (dsOf dl) vars l).map (Ty.mk k num)) ∧ σ' = τ) [.code (.loop c_scope_resolver_resolve_L0), .blk 1, .code (.seq (.reg [⟨some 102, .ldl (.t 8) (some 3), none⟩, ⟨none, .st (.t 6) (.t 102) 3, none⟩, ⟨some 7, .mv (.c (.d (.int .i64 0))), none⟩] [6, 7]) .ret)]
      (put 0 (.gp jr 0) (put 6 (.lp 6 0) (put 8 (.lp 8 0) (put 79 (.d (.sl (l.map TE.enc))) (put 80 (.d (.int .i64 l.length)) (put 81 (.d (.int .i64 0)) U)))))) (putL 6 [.d (.int .i64 0), .d (.int .i64 0), .nils] (putL 8 [.d (.int .i64 k), .d (.int .i64 num), .nils] E)) τ := by
  refine Run.loopA ?_
  refine Run.loopI ((fun (a0 : AV) (a6 : AV) (a8 : AV) (a79 : AV) (a80 : AV) => fun (y : Nat × List Ty × AV × Heap) => put 0 a0 (put 6 a6 (put 8 a8 (put 79 a79 (put 80 a80 (put 81 (.d (.int .i64 y.1)) U)))))) _ _ _ _ _) (fun y => putL 6 [.d (.int .i64 0), .d (.int .i64 0), .nils] (putL 8 [.d (.int .i64 k), .d (.int .i64 num), y.2.2.1] E)) (fun y => y.2.2.2)
    (fun y => y.1 ≤ l.length ∧ y.2.1.length = y.1 ∧ resPs (dsOf dl) vars (l.take y.1) = .ok y.2.1 ∧ OwnS τ 122 3 (y.2.1.map Ty.enc) y.2.2.1 y.2.2.2) (fun y => l.length - y.1) ?_ (0, [], .nils, τ) ⟨by simp, rfl, rfl, OwnS.nil _ _ _⟩
  rintro ⟨i, us, uv, τ1⟩ ⟨hi, hlu, hok, ho⟩ ih2
  simp only at hi hlu hok ho
  by_cases hlt : i < l.length
  · obtain ⟨x, hx⟩ := ex_at hlt
    have he := row_at (enc := TE.enc) hx
    have hw1 := wrap_succ (show i + 1 ≤ 9000000000000000000 by omega)
    have hall : resPs (dsOf dl) vars l = (resPs (dsOf dl) vars (x :: l.drop (i + 1))).map (us ++ ·) := by
      conv => lhs; rw [← List.take_append_drop i l, drop_at hx]
      exact resPs_app _ _ _ hok
    have hsn : resPs (dsOf dl) vars (l.take (i + 1)) = (resPs (dsOf dl) vars [x]).map (us ++ ·) := by
      rw [take_snoc hx]; exact resPs_app _ _ _ hok
    rw [resPs] at hall
    rw [resPs, resPs] at hsn
    have hc := ih x (List.mem_of_getElem? hx) τ1 (hrb.le ho.le)
    cases hr : resP (dsOf dl) vars false x with
    | error e =>
      rw [hr] at hc hall
      have hne := resP_ne x false e hr
      have hne' : (e != 0) = true := by simpa using hne
      obtain ⟨xk, xn, xl⟩ := x
      simp only [TE.enc_mk, teA, List.map_cons, List.map_nil, resA] at he hc
      (repeat' (first|refine Run.ct rfl ?_|((first|refine Run.reg mixed ?_|refine Run.condM ?_|(refine Run.retP g_scope_resolver_resolve ho.le ?_)|refine XCall.det (hc) ?_|(refine xo_gs rfl (fun h => ?_) (fun h => ?_) <;> try (cases h; done))) <;> try simp -implicitDefEqProofs only [lt_t hlt, he, hne', ho.cell, go_sem, Nat.reduceEqDiff, Nat.reduceBEq, Nat.reduceAdd, Nat.reduceLeDiff, reduceIte, reduceCtorEq])|(refine ⟨fun h => ?_, fun h => ?_⟩ <;> first|(cases h; done)|try simp only [h])|fail))
      rw [hall]; rfl
    | ok u =>
      rw [hr] at hc hsn
      simp only [Except.map] at hsn
      obtain ⟨uk, un, ul⟩ := u
      obtain ⟨xk, xn, xl⟩ := x
      simp only [TE.enc_mk, teA, List.map_cons, List.map_nil, resA, tyA, Ty.enc] at he hc
      have h00 : ((0 : Int) != 0) = false := by decide
      (repeat' (first|refine Run.ct rfl ?_|((first|refine Run.reg mixed ?_|refine Run.condM ?_|(refine XApp.own ho rfl (by simp) (by simp; omega) (by decide) (fun v2 σ2 ho2 hbk => ?_))|refine XCall.det (hc) ?_|(refine xo_gs rfl (fun h => ?_) (fun h => ?_) <;> try (cases h; done))) <;> try simp -implicitDefEqProofs only [lt_t hlt, he, hw1, h00, ho.cell, ho.cells, ho.noLp, ho.lpOf, go_sem, Nat.reduceEqDiff, Nat.reduceBEq, Nat.reduceAdd, Nat.reduceLeDiff, reduceIte, reduceCtorEq])|(refine ⟨fun h => ?_, fun h => ?_⟩ <;> first|(cases h; done)|try simp only [h])|fail))
      simp -implicitDefEqProofs only [ho2.cells, ho2.cell, go_sem, Nat.reduceEqDiff, Nat.reduceBEq, Nat.reduceAdd, Nat.reduceLeDiff, reduceIte, reduceCtorEq]
      (repeat' (first|refine Run.ct rfl ?_|((first|refine Run.reg mixed ?_|refine Run.condM ?_|(refine xo_gs rfl (fun h => ?_) (fun h => ?_) <;> try (cases h; done))) <;> try simp -implicitDefEqProofs only [hw1, ho2.cell, ho2.cells, go_sem, Nat.reduceEqDiff, Nat.reduceBEq, Nat.reduceAdd, Nat.reduceLeDiff, reduceIte, reduceCtorEq])|(refine ⟨fun h => ?_, fun h => ?_⟩ <;> first|(cases h; done)|try simp only [h])|fail))
      exact ih2 (i + 1, us ++ [.mk uk un ul], v2, σ2) ⟨by simp only; omega, by simp [hlu], hsn, by simpa [Ty.enc] using ho2⟩ (by simp only; omega)
  · rw [List.take_of_length_le (by omega)] at hok
    (repeat' (first|refine Run.ct rfl ?_|((first|refine Run.reg mixed ?_|refine Run.condM ?_|(refine Run.retP g_scope_resolver_resolve ho.le ?_)|(refine xo_gs rfl (fun h => ?_) (fun h => ?_) <;> try (cases h; done))) <;> try simp -implicitDefEqProofs only [lt_f hlt, ho.cell, ho.cells, go_sem, Nat.reduceEqDiff, Nat.reduceBEq, Nat.reduceAdd, Nat.reduceLeDiff, reduceIte, reduceCtorEq])|(refine ⟨fun h => ?_, fun h => ?_⟩ <;> first|(cases h; done)|try simp only [h])|fail))
    rw [ho.plain, hok]
    simp [resA, tyA, Ty.enc, Ty.encs_map, Except.map]
theorem dsOf_at {dl : List Dat} {i : Nat} {d : Dat} (h : dl[i]? = some d) : (dsOf dl).getD i ([], 0) = (d.name, d.vars.toNat) := by
  rw [List.getD_eq_getElem?_getD, dsOf, List.getElem?_map, h]; rfl
theorem dsOf_names (dl : List Dat) : (dsOf dl).map (·.1) = dnames dl := by simp [dsOf, dnames]
theorem dnames_at {dl : List Dat} {s : Str} {i : Nat} (h : idxP (dnames dl) s = some i) : ∃ d, dl[i]? = some d := by
  have := idxP_spec h
  rw [dnames, List.getElem?_map, Option.map_eq_some_iff] at this
  obtain ⟨d, hd, _⟩ := this
  exact ⟨d, hd⟩
set_option maxRecDepth 4000 in
set_option maxHeartbeats 8000000 in
theorem resolve_ok (jr : Nat) (dl : List Dat) (hdl : dl.length ≤ 1000000) (hnn : ∀ d ∈ dl, 0 ≤ d.vars) (nm : Str) (vars : List Str) (cs : List CE) :
    ∀ (N : Nat) (t : TE) (whole : Bool) (τ : Heap), t.size ≤ N → t.size ≤ 1000000 → RB τ jr dl nm vars cs → ACalls Try.prog 55 [.gp jr 0, teA t, .d (.bool whole)] τ (fun v σ' => v = resA (resP (dsOf dl) vars whole t) ∧ σ' = τ) := by
  intro N
  induction N with
  | zero => intro t whole τ h; have := TE.size_pos t; omega
  | succ N ihN =>
  rintro ⟨k, n, l⟩ whole τ hN hsz hrb
  simp only [TE.size] at hN hsz
  have hlen := TE.len_sizes l
  have hloop := fun num => resolve_loop jr dl nm vars cs k num l τ hrb (by omega) (fun x hx τ' h => by
    have := TE.mem_sz hx
    exact ihN x false τ' (by omega) (by omega) h)
  clear ihN
  obtain ⟨dv, hb, hdv⟩ := hrb
  refine i_scope_resolver_resolve (by simp) ?_
  rw [argF_3, teA, TE.enc_mk]
  by_cases h4 : k = 4
  · subst h4
    have hres : resP (dsOf dl) vars whole (.mk 4 n l) = match idxP vars n with | none => .error 3 | some i => (resPs (dsOf dl) vars l).map (Ty.mk 4 i) := by
      rw [resP, if_pos rfl]; rfl
    have hi := Index_string_ok vars n τ
    cases hix : idxP vars n with
    | none =>
      rw [hix] at hi hres
      simp only [idxI] at hi hres
      have hneg : decide ((-1 : Int) < 0) = true := by decide
      (repeat' (first|refine Run.ct rfl ?_|((first|refine Run.reg mixed ?_|refine Run.condM ?_|refine Run.retP g_scope_resolver_resolve (Heap.le_refl _) ?_|refine XCall.det (hi) ?_|(refine xo_gs rfl (fun h => ?_) (fun h => ?_) <;> try (cases h; done))) <;> try simp -implicitDefEqProofs only [Int.reduceBEq, hb, hneg, go_sem, Nat.reduceEqDiff, Nat.reduceBEq, Nat.reduceAdd, Nat.reduceLeDiff, reduceIte, reduceCtorEq])|(refine ⟨fun h => ?_, fun h => ?_⟩ <;> first|(cases h; done)|try simp only [h])|fail))
      rw [hres]; rfl
    | some i =>
      rw [hix] at hi hres
      simp only [idxI] at hi hres
      have hneg : decide ((i : Int) < 0) = false := decide_eq_false (by omega)
      rw [hres]
      (repeat' (first|refine Run.ct rfl ?_|((first|refine Run.reg mixed ?_|refine Run.condM ?_|refine XCall.det (hi) ?_|(refine xo_gs rfl (fun h => ?_) (fun h => ?_) <;> try (cases h; done))) <;> try simp -implicitDefEqProofs only [Int.reduceBEq, hb, hneg, List.length_map, go_sem, Nat.reduceEqDiff, Nat.reduceBEq, Nat.reduceAdd, Nat.reduceLeDiff, reduceIte, reduceCtorEq])|(refine ⟨fun h => ?_, fun h => ?_⟩ <;> first|(cases h; done)|try simp only [h])|fail))
      exact hloop i
  by_cases h5 : k = 5
  · subst h5
    have hres : resP (dsOf dl) vars whole (.mk 5 n l) = match idxP (dnames dl) n with | none => .error 3 | some i => if l.length ≠ ((dsOf dl).getD i ([], 0)).2 then .error 5 else if i + 1 = (dsOf dl).length ∧ ¬ (whole = true ∧ paramsB l vars = true) then .error 7 else (resPs (dsOf dl) vars l).map (Ty.mk 5 i) := by
      rw [resP, if_neg h4, if_pos rfl, dsOf_names]; rfl
    have hf := find_ok dl dv _ jr n τ hdl hb hdv
    have hpar := parameters_ok l dv nm vars cs jr τ (by omega) hb
    cases hix : idxP (dnames dl) n with
    | none =>
      rw [hix] at hf hres
      simp only [idxI] at hf hres
      have hneg : decide ((-1 : Int) < 0) = true := by decide
      (repeat' (first|refine Run.ct rfl ?_|((first|refine Run.reg mixed ?_|refine Run.condM ?_|refine Run.retP g_scope_resolver_resolve (Heap.le_refl _) ?_|refine XCall.det (hf) ?_|(refine xo_gs rfl (fun h => ?_) (fun h => ?_) <;> try (cases h; done))) <;> try simp -implicitDefEqProofs only [Int.reduceBEq, hneg, go_sem, Nat.reduceEqDiff, Nat.reduceBEq, Nat.reduceAdd, Nat.reduceLeDiff, reduceIte, reduceCtorEq])|(refine ⟨fun h => ?_, fun h => ?_⟩ <;> first|(cases h; done)|try simp only [h])|fail))
      rw [hres]; rfl
    | some i =>
      obtain ⟨d, hd⟩ := dnames_at hix
      have hil := (List.getElem?_eq_some_iff.1 hd).1
      have hdn := hnn d (List.mem_of_getElem? hd)
      rw [hix] at hf hres
      simp only [idxI] at hf hres
      rw [dsOf_at hd] at hres
      have hneg : decide ((i : Int) < 0) = false := decide_eq_false (by omega)
      rcases hdv with ⟨rfl, _⟩ | ⟨jd, e, cells, rfl, hbd, hrows⟩
      · simp at hil
      obtain ⟨cv, _, _, _, g1, _, _⟩ := hrows.at hd
      have hixx : ((i : Int) < (dl.length : Int)) = True := by simp; omega
      have hcmp : ((l.length : Int) != d.vars) = decide (l.length ≠ d.vars.toNat) := by
        rw [Bool.eq_iff_iff]; simp only [bne_iff_ne, ne_eq, decide_eq_true_eq]; omega
      by_cases hA : l.length ≠ d.vars.toNat
      · rw [decide_eq_true hA] at hcmp
        rw [if_pos hA] at hres
        (repeat' (first|refine Run.ct rfl ?_|((first|refine Run.reg mixed ?_|refine Run.condM ?_|refine Run.retP g_scope_resolver_resolve (Heap.le_refl _) ?_|refine XCall.det (hf) ?_|(refine xo_gs rfl (fun h => ?_) (fun h => ?_) <;> try (cases h; done))) <;> try simp -implicitDefEqProofs only [Int.reduceBEq, hb, hneg, List.length_map, hixx, hbd, g1, hcmp, go_sem, Nat.reduceEqDiff, Nat.reduceBEq, Nat.reduceAdd, Nat.reduceLeDiff, reduceIte, reduceCtorEq])|(refine ⟨fun h => ?_, fun h => ?_⟩ <;> first|(cases h; done)|try simp only [h])|fail))
        rw [hres]; rfl
      · rw [decide_eq_false hA] at hcmp
        rw [if_neg hA] at hres
        have hw1 : IntKind.i64.wrap ((dl.length : Int) - 1) = ((dl.length - 1 : Nat) : Int) := by rw [wrap_pos (by omega) (by omega)]; omega
        have hlast : ((i : Int) == ((dl.length - 1 : Nat) : Int)) = decide (i + 1 = (dsOf dl).length) := by
          rw [Bool.eq_iff_iff]; simp only [beq_iff_eq, decide_eq_true_eq, dsOf, List.length_map]; omega
        by_cases hB : i + 1 = (dsOf dl).length
        · rw [decide_eq_true hB] at hlast
          cases whole with
          | false =>
            rw [if_pos ⟨hB, by simp⟩] at hres
            (repeat' (first|refine Run.ct rfl ?_|((first|refine Run.reg mixed ?_|refine Run.condM ?_|refine Run.retP g_scope_resolver_resolve (Heap.le_refl _) ?_|refine XCall.det (hf) ?_|(refine xo_gs rfl (fun h => ?_) (fun h => ?_) <;> try (cases h; done))) <;> try simp -implicitDefEqProofs only [Int.reduceBEq, hb, hneg, List.length_map, hixx, hbd, g1, hcmp, hw1, hlast, go_sem, Nat.reduceEqDiff, Nat.reduceBEq, Nat.reduceAdd, Nat.reduceLeDiff, reduceIte, reduceCtorEq])|(refine ⟨fun h => ?_, fun h => ?_⟩ <;> first|(cases h; done)|try simp only [h])|fail))
            rw [hres]; rfl
          | true =>
            cases hC : paramsB l vars with
            | false =>
              rw [hC] at hpar
              rw [if_pos ⟨hB, by simp [hC]⟩] at hres
              (repeat' (first|refine Run.ct rfl ?_|((first|refine Run.reg mixed ?_|refine Run.condM ?_|refine Run.retP g_scope_resolver_resolve (Heap.le_refl _) ?_|refine XCall.det (hf) ?_|refine XCall.det (hpar) ?_|(refine xo_gs rfl (fun h => ?_) (fun h => ?_) <;> try (cases h; done))) <;> try simp -implicitDefEqProofs only [Int.reduceBEq, hb, hneg, List.length_map, hixx, hbd, g1, hcmp, hw1, hlast, go_sem, Nat.reduceEqDiff, Nat.reduceBEq, Nat.reduceAdd, Nat.reduceLeDiff, reduceIte, reduceCtorEq])|(refine ⟨fun h => ?_, fun h => ?_⟩ <;> first|(cases h; done)|try simp only [h])|fail))
              rw [hres]; rfl
            | true =>
              rw [hC] at hpar
              rw [if_neg (by simp [hC])] at hres
              rw [hres]
              (repeat' (first|refine Run.ct rfl ?_|((first|refine Run.reg mixed ?_|refine Run.condM ?_|refine XCall.det (hf) ?_|refine XCall.det (hpar) ?_|(refine xo_gs rfl (fun h => ?_) (fun h => ?_) <;> try (cases h; done))) <;> try simp -implicitDefEqProofs only [Int.reduceBEq, hb, hneg, List.length_map, hixx, hbd, g1, hcmp, hw1, hlast, go_sem, Nat.reduceEqDiff, Nat.reduceBEq, Nat.reduceAdd, Nat.reduceLeDiff, reduceIte, reduceCtorEq])|(refine ⟨fun h => ?_, fun h => ?_⟩ <;> first|(cases h; done)|try simp only [h])|fail))
              exact hloop i
        · rw [decide_eq_false hB] at hlast
          rw [if_neg (fun h => hB h.1)] at hres
          rw [hres]
          (repeat' (first|refine Run.ct rfl ?_|((first|refine Run.reg mixed ?_|refine Run.condM ?_|refine XCall.det (hf) ?_|(refine xo_gs rfl (fun h => ?_) (fun h => ?_) <;> try (cases h; done))) <;> try simp -implicitDefEqProofs only [Int.reduceBEq, hb, hneg, List.length_map, hixx, hbd, g1, hcmp, hw1, hlast, go_sem, Nat.reduceEqDiff, Nat.reduceBEq, Nat.reduceAdd, Nat.reduceLeDiff, reduceIte, reduceCtorEq])|(refine ⟨fun h => ?_, fun h => ?_⟩ <;> first|(cases h; done)|try simp only [h])|fail))
          exact hloop i
  · have hres : resP (dsOf dl) vars whole (.mk k n l) = (resPs (dsOf dl) vars l).map (Ty.mk k 0) := by rw [resP, if_neg h4, if_neg h5]
    rw [hres]
    (repeat' (first|refine Run.ct rfl ?_|((first|refine Run.reg mixed ?_|refine Run.condM ?_|(refine xo_gs rfl (fun h => ?_) (fun h => ?_) <;> try (cases h; done))) <;> try simp -implicitDefEqProofs only [beqF h4, beqF h5, List.length_map, go_sem, Nat.reduceEqDiff, Nat.reduceBEq, Nat.reduceAdd, Nat.reduceLeDiff, reduceIte, reduceCtorEq])|(refine ⟨fun h => ?_, fun h => ?_⟩ <;> first|(cases h; done)|try simp only [h])|fail))
    exact hloop 0
end Go.Ab
