/- Valid programs. Conditions: none. -/
import Derived.Test.YtlckhmkeihbhmaaXUg
set_option linter.unusedSimpArgs false
namespace Go.Ab
open Go.Proofs
def smallCE (c : CE) : Prop := ∀ t ∈ c.args, t.size ≤ 1000000
def smallDE (d : DE) : Prop := ∀ c ∈ d.cons, smallCE c
theorem bcongr {b c : Bool} (h : b = true ↔ c = true) : AV.d (.bool b) = AV.d (.bool c) := by rw [Bool.eq_iff_iff.2 h]
theorem validData_1_1_ok (t : TE) (σ : Heap) (h : t.size ≤ 1000000) : ACalls Try.prog 62 [teA t] σ (fun v σ' => v = .d (.bool (validTE 40 t)) ∧ σ' = σ) := by
  refine i_syntax_validData_1_1 (by simp) ?_
  rw [argF_1]
  have hc := syntax_validType_ok 40 (Nat.le_refl _) t σ h
  rw [show ((41 - 40 : Nat) : Int) = 1 from rfl] at hc
  obtain ⟨k, n, l⟩ := t
  simp only [TE.enc_mk, teA, List.map_cons, List.map_nil] at hc ⊢
  (repeat' (first|refine Run.ct rfl ?_|((first|refine Run.reg mixed ?_|refine Run.condM ?_|refine Run.retP g_syntax_validData_1_1 (Heap.le_refl _) ?_|refine XCall.det (hc) ?_|(refine xo_gs rfl (fun h => ?_) (fun h => ?_) <;> try (cases h; done))) <;> try simp -implicitDefEqProofs only [go_sem, Nat.reduceEqDiff, Nat.reduceBEq, Nat.reduceAdd, Nat.reduceLeDiff, reduceIte, reduceCtorEq])|(refine ⟨fun h => ?_, fun h => ?_⟩ <;> first|(cases h; done)|try simp only [h])|fail))
theorem validData_1_ok (c : CE) (σ : Heap) (h : smallCE c) : ACalls Try.prog 60 [ceA c] σ (fun v σ' => v = .d (.bool (conB c)) ∧ σ' = σ) := by
  refine i_syntax_validData_1 (by simp) ?_
  rw [argF_1]
  have ha := all_api_TypeExpr_ok (fid := 62) (caps := []) (by kernel_rfl) rfl (validTE 40) c.args σ (fun t ht σ1 _ => validData_1_1_ok t σ1 (h t ht))
  obtain ⟨nm, ar⟩ := c
  simp only [CE.enc, ceA, List.map_cons, List.map_nil] at ha ⊢
  have h6 : decide ((ar.length : Int) ≤ 6) = decide (ar.length ≤ 6) := leN _ 6
  (repeat' (first|refine Run.ct rfl ?_|(refine xo_gm2 (by first|exact GV.t|exact GV.f|exact GV.st|exact GV.sf) ⟨?_, fun h => ?_, ?_⟩; rotate_left; (focus ((try simp only [Bool.and_eq_true, Bool.not_not] at h); simp -implicitDefEqProofs only [List.length_map, h6, go_sem, Nat.reduceEqDiff, Nat.reduceBEq, Nat.reduceAdd, Nat.reduceLeDiff, reduceIte, reduceCtorEq]; first|exact Is.mk|exact Is.pv (by simp -implicitDefEqProofs only [h, sel_t, ↓pk_and, ↓pk_or, ↓pk_or2, List.length_map, h6, go_sem, Nat.reduceEqDiff, Nat.reduceBEq, Nat.reduceAdd, Nat.reduceLeDiff, reduceIte, reduceCtorEq]; rfl)|(refine XCall.det (syntax_isUpper_ok nm _) ?_; exact Is.mk)|(refine XCall.det (ha) ?_; exact Is.mk)|(refine XCall.eqArgs (by simp only [h, sel_t]; rfl) ?_; first|(refine XCall.det (syntax_isUpper_ok nm _) ?_; exact Is.mk)|(refine XCall.det (ha) ?_; exact Is.mk)))); (try simp -implicitDefEqProofs only [sel_sel, sel_sl, sel_sr, ↓pk_and, ↓pk_or, ↓pk_or2, List.length_map, h6, rs_syntax_validData_1, go_sem, Nat.reduceEqDiff, Nat.reduceBEq, Nat.reduceAdd, Nat.reduceLeDiff, reduceIte, reduceCtorEq]))|((first|refine Run.reg mixed ?_|refine Run.condM ?_|refine Run.retP g_syntax_validData_1 (Heap.le_refl _) ?_|refine XCall.det (syntax_isUpper_ok nm _) ?_|refine XCall.det (ha) ?_|(refine xo_gs rfl (fun h => ?_) (fun h => ?_) <;> try (cases h; done))) <;> try simp -implicitDefEqProofs only [sel_sel, sel_sl, sel_sr, ↓pk_and, ↓pk_or, ↓pk_or2, List.length_map, h6, go_sem, Nat.reduceEqDiff, Nat.reduceBEq, Nat.reduceAdd, Nat.reduceLeDiff, reduceIte, reduceCtorEq])|(refine ⟨fun h => ?_, fun h => ?_⟩ <;> first|(cases h; done)|try simp only [h])|fail))
  simp only [conB]
theorem validData_ok (d : DE) (σ : Heap) (h : smallDE d) : ACalls Try.prog 50 [deA d] σ (fun v σ' => v = .d (.bool (dataB d)) ∧ σ' = σ) := by
  refine i_syntax_validData (by simp) ?_
  rw [argF_1]
  have ha := all_string_ok (fid := 51) (caps := []) (by kernel_rfl) rfl nameB d.vars σ (fun x _ σ1 _ => syntax_isName_ok x σ1)
  have hc := all_api_ConExpr_ok (fid := 60) (caps := []) (by kernel_rfl) rfl conB d.cons σ (fun c hc σ1 _ => validData_1_ok c σ1 (h c hc))
  obtain ⟨nm, vs, cs⟩ := d
  simp only [DE.enc, deA, List.map_cons, List.map_nil] at ha hc ⊢
  have h6 : decide ((6 : Int) < (vs.length : Int)) = !decide (vs.length ≤ 6) := gtN _ 6
  have h8 : decide ((8 : Int) < (cs.length : Int)) = !decide (cs.length ≤ 8) := gtN _ 8
  have h1 : decide ((cs.length : Int) < 1) = decide (cs.length < 1) := ltN _ 1
  (repeat' (first|refine Run.ct rfl ?_|(refine xo_gm2 (by first|exact GV.t|exact GV.f|exact GV.st|exact GV.sf) ⟨?_, fun h => ?_, ?_⟩; rotate_left; (focus ((try simp only [Bool.and_eq_true, Bool.not_not] at h); simp -implicitDefEqProofs only [List.length_map, h6, h8, h1, go_sem, Nat.reduceEqDiff, Nat.reduceBEq, Nat.reduceAdd, Nat.reduceLeDiff, reduceIte, reduceCtorEq]; first|exact Is.mk|exact Is.pv (by simp -implicitDefEqProofs only [h, sel_t, ↓pk_and, ↓pk_or, ↓pk_or2, List.length_map, h6, h8, h1, go_sem, Nat.reduceEqDiff, Nat.reduceBEq, Nat.reduceAdd, Nat.reduceLeDiff, reduceIte, reduceCtorEq]; rfl)|(refine XCall.det (syntax_isUpper_ok nm _) ?_; exact Is.mk)|(refine XCall.det (ha) ?_; exact Is.mk)|(refine XCall.det (hc) ?_; exact Is.mk)|(refine XCall.eqArgs (by simp only [h, sel_t]; rfl) ?_; first|(refine XCall.det (syntax_isUpper_ok nm _) ?_; exact Is.mk)|(refine XCall.det (ha) ?_; exact Is.mk)|(refine XCall.det (hc) ?_; exact Is.mk)))); (try simp -implicitDefEqProofs only [sel_sel, sel_sl, sel_sr, ↓pk_and, ↓pk_or, ↓pk_or2, List.length_map, h6, h8, h1, rs_syntax_validData, go_sem, Nat.reduceEqDiff, Nat.reduceBEq, Nat.reduceAdd, Nat.reduceLeDiff, reduceIte, reduceCtorEq]))|((first|refine Run.reg mixed ?_|refine Run.condM ?_|refine Run.retP g_syntax_validData (Heap.le_refl _) ?_|refine XCall.det (syntax_isUpper_ok nm _) ?_|refine XCall.det (ha) ?_|refine XCall.det (hc) ?_|(refine xo_gs rfl (fun h => ?_) (fun h => ?_) <;> try (cases h; done))) <;> try simp -implicitDefEqProofs only [sel_sel, sel_sl, sel_sr, ↓pk_and, ↓pk_or, ↓pk_or2, List.length_map, h6, h8, h1, go_sem, Nat.reduceEqDiff, Nat.reduceBEq, Nat.reduceAdd, Nat.reduceLeDiff, reduceIte, reduceCtorEq])|(refine ⟨fun h => ?_, fun h => ?_⟩ <;> first|(cases h; done)|try simp only [h])|fail))
  all_goals (refine bcongr ?_; simp [dataB] at *; try grind)
theorem vEx_small {q r : Nat} {f : FE} (h : vFun q f = some r) : r ≤ q := by
  unfold vFun at h
  split at h
  · exact vEx_le _ _ _ _ h
  · cases h
set_option maxHeartbeats 4000000 in
theorem syntax_Valid_ok (p : Pg) (σ : Heap) (h : ∀ d ∈ p.data, smallDE d) : ACalls Try.prog 35 [pgA p] σ (fun v σ' => v = .d (.bool (validB p)) ∧ σ' = σ) := by
  obtain ⟨ds, fs⟩ := p
  refine i_syntax_Valid (by simp) ?_
  rw [argF_1, pgA]
  simp only [Pg.enc, List.map_cons, List.map_nil] at h ⊢
  have h12 : decide ((12 : Int) < (ds.length : Int)) = !decide (ds.length ≤ 12) := gtN _ 12
  have h24 : decide ((24 : Int) < (fs.length : Int)) = !decide (fs.length ≤ 24) := gtN _ 24
  by_cases hd : ds.length ≤ 12
  case neg =>
    (repeat' (first|refine Run.ct rfl ?_|((first|refine Run.reg mixed ?_|refine Run.condM ?_|refine Run.retP g_syntax_Valid (Heap.le_refl _) ?_|(refine xo_gs rfl (fun h => ?_) (fun h => ?_) <;> try (cases h; done))) <;> try simp -implicitDefEqProofs only [List.length_map, h12, decide_eq_false hd, go_sem, Nat.reduceEqDiff, Nat.reduceBEq, Nat.reduceAdd, Nat.reduceLeDiff, reduceIte, reduceCtorEq])|(refine ⟨fun h => ?_, fun h => ?_⟩ <;> first|(cases h; done)|try simp only [h])|fail))
    simp [validB, hd]
  by_cases hf : fs.length ≤ 24
  case neg =>
    (repeat' (first|refine Run.ct rfl ?_|((first|refine Run.reg mixed ?_|refine Run.condM ?_|refine Run.retP g_syntax_Valid (Heap.le_refl _) ?_|(refine xo_gs rfl (fun h => ?_) (fun h => ?_) <;> try (cases h; done))) <;> try simp -implicitDefEqProofs only [List.length_map, h12, decide_eq_true hd, h24, decide_eq_false hf, go_sem, Nat.reduceEqDiff, Nat.reduceBEq, Nat.reduceAdd, Nat.reduceLeDiff, reduceIte, reduceCtorEq])|(refine ⟨fun h => ?_, fun h => ?_⟩ <;> first|(cases h; done)|try simp only [h])|fail))
    simp [validB, hf]
  have hres : validB ⟨ds, fs⟩ = (ds.all dataB && (fs.foldlM vFun 600).isSome) := by simp [validB, hd, hf]
  (repeat' (first|refine Run.ct rfl ?_|((first|refine Run.reg mixed ?_|refine Run.condM ?_|(refine xo_gs rfl (fun h => ?_) (fun h => ?_) <;> try (cases h; done))) <;> try simp -implicitDefEqProofs only [List.length_map, h12, decide_eq_true hd, h24, decide_eq_true hf, go_sem, Nat.reduceEqDiff, Nat.reduceBEq, Nat.reduceAdd, Nat.reduceLeDiff, reduceIte, reduceCtorEq])|(refine ⟨fun h => ?_, fun h => ?_⟩ <;> first|(cases h; done)|try simp only [h])|fail))
  refine Run.loopA ?_
  refine Run.loopI ((fun (a1 : AV) (a19 : AV) (a20 : AV) => fun (i : Nat) => put 1 a1 (put 19 a19 (put 20 a20 (put 21 (.d (.int .i64 i)) U)))) _ _ _) (fun _ => putL 1 [.d (.sl (ds.map DE.enc)), .d (.sl (fs.map FE.enc))] E) (fun _ => σ) (fun i => i ≤ ds.length ∧ (ds.take i).all dataB = true) (fun i => ds.length - i) ?_ 0 ⟨by simp, by simp⟩
  rintro i ⟨hi, hok⟩ ih
  by_cases hlt : i < ds.length
  · obtain ⟨x, hx⟩ := ex_at hlt
    have he := row_at (enc := DE.enc) hx
    have hw1 := wrap_succ (show i + 1 ≤ 9000000000000000000 by omega)
    have hc := validData_ok x σ (h x (List.mem_of_getElem? hx))
    cases hp : dataB x with
    | true =>
      have hs := all_snoc hok hx hp
      rw [hp] at hc
      obtain ⟨nm, vs, cs⟩ := x
      simp only [DE.enc, deA, List.map_cons, List.map_nil] at he hc
      (repeat' (first|refine Run.ct rfl ?_|((first|refine Run.reg mixed ?_|refine Run.condM ?_|refine XCall.det (hc) ?_|(refine xo_gs rfl (fun h => ?_) (fun h => ?_) <;> try (cases h; done))) <;> try simp -implicitDefEqProofs only [lt_t hlt, he, hw1, go_sem, Nat.reduceEqDiff, Nat.reduceBEq, Nat.reduceAdd, Nat.reduceLeDiff, reduceIte, reduceCtorEq])|(refine ⟨fun h => ?_, fun h => ?_⟩ <;> first|(cases h; done)|try simp only [h])|fail))
      exact ih (i + 1) ⟨by omega, hs⟩ (by omega)
    | false =>
      have hs := all_at (p := dataB) hx hp
      rw [hp] at hc
      obtain ⟨nm, vs, cs⟩ := x
      simp only [DE.enc, deA, List.map_cons, List.map_nil] at he hc
      (repeat' (first|refine Run.ct rfl ?_|((first|refine Run.reg mixed ?_|refine Run.condM ?_|refine Run.retP g_syntax_Valid (Heap.le_refl _) ?_|refine XCall.det (hc) ?_|(refine xo_gs rfl (fun h => ?_) (fun h => ?_) <;> try (cases h; done))) <;> try simp -implicitDefEqProofs only [lt_t hlt, he, hw1, go_sem, Nat.reduceEqDiff, Nat.reduceBEq, Nat.reduceAdd, Nat.reduceLeDiff, reduceIte, reduceCtorEq])|(refine ⟨fun h => ?_, fun h => ?_⟩ <;> first|(cases h; done)|try simp only [h])|fail))
      rw [hres, hs]; rfl
  · rw [List.take_of_length_le (by omega)] at hok
    rw [hok, Bool.true_and] at hres
    clear ih
    (repeat' (first|refine Run.ct rfl ?_|((first|refine Run.reg mixed ?_|refine Run.condM ?_|(refine xo_gs rfl (fun h => ?_) (fun h => ?_) <;> try (cases h; done))) <;> try simp -implicitDefEqProofs only [lt_f hlt, go_sem, Nat.reduceEqDiff, Nat.reduceBEq, Nat.reduceAdd, Nat.reduceLeDiff, reduceIte, reduceCtorEq])|(refine ⟨fun h => ?_, fun h => ?_⟩ <;> first|(cases h; done)|try simp only [h])|fail))
    intro j hj
    have hle := le_setBlk (cs := [AV.d (.int .i64 0)]) hj
    (repeat' (first|refine Run.ct rfl ?_|((first|refine Run.reg mixed ?_|refine Run.condM ?_|(refine xo_gs rfl (fun h => ?_) (fun h => ?_) <;> try (cases h; done))) <;> try simp -implicitDefEqProofs only [List.length_map, go_sem, Nat.reduceEqDiff, Nat.reduceBEq, Nat.reduceAdd, Nat.reduceLeDiff, reduceIte, reduceCtorEq])|(refine ⟨fun h => ?_, fun h => ?_⟩ <;> first|(cases h; done)|try simp only [h])|fail))
    refine Run.loopA ?_
    refine Run.loopI ((fun (a5 : AV) (a32 : AV) (a33 : AV) => fun (y : Nat × Nat) => put 5 a5 (put 32 a32 (put 33 a33 (put 34 (.d (.int .i64 y.1)) U)))) _ _ _) (fun _ => E) (fun y => σ.setBlk j [.d (.int .i64 (encN y.2))])
      (fun y => y.1 ≤ fs.length ∧ y.2 ≤ 600 ∧ (fs.take y.1).foldlM vFun 600 = some y.2) (fun y => fs.length - y.1) ?_ (0, 600) ⟨by simp, by simp, rfl⟩
    rintro ⟨i, q⟩ ⟨hi, hq, hok⟩ ih
    simp only at hi hq hok
    by_cases hlt : i < fs.length
    · obtain ⟨x, hx⟩ := ex_at hlt
      have he := row_at (enc := FE.enc) hx
      have hw1 := wrap_succ (show i + 1 ≤ 9000000000000000000 by omega)
      have hnm := syntax_isName_ok x.name (σ.setBlk j [.d (.int .i64 (encN q))])
      have hps := all_string_ok (fid := 51) (caps := []) (by kernel_rfl) rfl nameB x.params (σ.setBlk j [.d (.int .i64 (encN q))]) (fun x _ σ1 _ => syntax_isName_ok x σ1)
      have h6 : decide ((6 : Int) < (x.params.length : Int)) = !decide (x.params.length ≤ 6) := gtN _ 6
      have hc := counter_expr_ok j 40 q (Nat.le_refl _) hq x.body (σ.setBlk j [.d (.int .i64 (encN q))]) (by simp only [setBlk_get, if_true])
      rw [show ((41 - 40 : Nat) : Int) = 1 from rfl] at hc
      have hno : vFun q x = none → fs.foldlM vFun 600 = none := fun h => foldM_none hok hx h
      have hyes : ∀ r, vFun q x = some r → (fs.take (i + 1)).foldlM vFun 600 = some r := fun r h => by rw [foldM_snoc hok hx, h]
      have hvf : vFun q x = if nameB x.name && decide (x.params.length ≤ 6) && x.params.all nameB then vEx 40 q x.body else none := rfl
      cases h1 : nameB x.name with
      | false =>
        rw [h1] at hnm hvf
        obtain ⟨nm, ps, o, n, u, ns, ks, al⟩ := x
        simp only [FE.enc, Ex.enc_mk] at he hnm
        (repeat' (first|refine Run.ct rfl ?_|((first|refine Run.reg mixed ?_|refine Run.condM ?_|(refine Run.retP g_syntax_Valid (σ2 := σ) (le_setBlk hj) ?_)|refine XCall.det (hnm) ?_|(refine xo_gs rfl (fun h => ?_) (fun h => ?_) <;> try (cases h; done))) <;> try simp -implicitDefEqProofs only [lt_t hlt, he, go_sem, Nat.reduceEqDiff, Nat.reduceBEq, Nat.reduceAdd, Nat.reduceLeDiff, reduceIte, reduceCtorEq])|(refine ⟨fun h => ?_, fun h => ?_⟩ <;> first|(cases h; done)|try simp only [h])|fail))
        rw [hres, hno hvf]; rfl
      | true =>
      by_cases h2 : x.params.length ≤ 6
      case neg =>
        rw [decide_eq_false h2] at h6
        rw [h1, decide_eq_false h2] at hvf
        rw [h1] at hnm
        obtain ⟨nm, ps, o, n, u, ns, ks, al⟩ := x
        simp only [FE.enc, Ex.enc_mk] at he hnm h6
        (repeat' (first|refine Run.ct rfl ?_|((first|refine Run.reg mixed ?_|refine Run.condM ?_|(refine Run.retP g_syntax_Valid (σ2 := σ) (le_setBlk hj) ?_)|refine XCall.det (hnm) ?_|(refine xo_gs rfl (fun h => ?_) (fun h => ?_) <;> try (cases h; done))) <;> try simp -implicitDefEqProofs only [lt_t hlt, he, List.length_map, h6, go_sem, Nat.reduceEqDiff, Nat.reduceBEq, Nat.reduceAdd, Nat.reduceLeDiff, reduceIte, reduceCtorEq])|(refine ⟨fun h => ?_, fun h => ?_⟩ <;> first|(cases h; done)|try simp only [h])|fail))
        rw [hres, hno hvf]; rfl
      rw [decide_eq_true h2] at h6
      cases h3 : x.params.all nameB with
      | false =>
        rw [h1, h3] at hvf
        rw [Bool.and_false] at hvf
        rw [h1] at hnm
        rw [h3] at hps
        obtain ⟨nm, ps, o, n, u, ns, ks, al⟩ := x
        simp only [FE.enc, Ex.enc_mk] at he hnm h6 hps
        (repeat' (first|refine Run.ct rfl ?_|((first|refine Run.reg mixed ?_|refine Run.condM ?_|(refine Run.retP g_syntax_Valid (σ2 := σ) (le_setBlk hj) ?_)|refine XCall.det (hnm) ?_|refine XCall.det (hps) ?_|(refine xo_gs rfl (fun h => ?_) (fun h => ?_) <;> try (cases h; done))) <;> try simp -implicitDefEqProofs only [lt_t hlt, he, List.length_map, h6, go_sem, Nat.reduceEqDiff, Nat.reduceBEq, Nat.reduceAdd, Nat.reduceLeDiff, reduceIte, reduceCtorEq])|(refine ⟨fun h => ?_, fun h => ?_⟩ <;> first|(cases h; done)|try simp only [h])|fail))
        rw [hres, hno hvf]; rfl
      | true =>
      rw [h1, h3, decide_eq_true h2] at hvf
      rw [h1] at hnm
      rw [h3] at hps
      cases hv : vEx 40 q x.body with
      | some r =>
        have hr := vEx_le _ _ _ _ hv
        rw [hv] at hvf
        have hc := VXQ.yes hc hv
        have hs := hyes r hvf
        obtain ⟨nm, ps, o, n, u, ns, ks, al⟩ := x
        simp only [FE.enc, Ex.enc_mk, exA, List.map_cons, List.map_nil] at he hnm h6 hps hc
        (repeat' (first|refine Run.ct rfl ?_|((first|refine Run.reg mixed ?_|refine Run.condM ?_|(refine XCall.mk rfl hc ?_; rintro _ _ ⟨rfl, rfl⟩)|refine XCall.det (hnm) ?_|refine XCall.det (hps) ?_|(refine xo_gs rfl (fun h => ?_) (fun h => ?_) <;> try (cases h; done))) <;> try simp -implicitDefEqProofs only [lt_t hlt, he, hw1, List.length_map, h6, go_sem, Nat.reduceEqDiff, Nat.reduceBEq, Nat.reduceAdd, Nat.reduceLeDiff, reduceIte, reduceCtorEq])|(refine ⟨fun h => ?_, fun h => ?_⟩ <;> first|(cases h; done)|try simp only [h])|fail))
        exact ih (i + 1, r) ⟨by simp only; omega, by simp only; omega, hs⟩ (by simp only; omega)
      | none =>
        rw [hv] at hvf
        have hc := VXQ.no hc hv
        obtain ⟨nm, ps, o, n, u, ns, ks, al⟩ := x
        simp only [FE.enc, Ex.enc_mk, exA, List.map_cons, List.map_nil] at he hnm h6 hps hc
        (repeat' (first|refine Run.ct rfl ?_|((first|refine Run.reg mixed ?_|refine Run.condM ?_|(refine XCall.mk rfl hc ?_; rintro _ _ ⟨rfl, z, rfl⟩)|(refine Run.retP g_syntax_Valid (σ2 := σ) (le_setBlk hj) ?_)|refine XCall.det (hnm) ?_|refine XCall.det (hps) ?_|(refine xo_gs rfl (fun h => ?_) (fun h => ?_) <;> try (cases h; done))) <;> try simp -implicitDefEqProofs only [lt_t hlt, he, hw1, List.length_map, h6, go_sem, Nat.reduceEqDiff, Nat.reduceBEq, Nat.reduceAdd, Nat.reduceLeDiff, reduceIte, reduceCtorEq])|(refine ⟨fun h => ?_, fun h => ?_⟩ <;> first|(cases h; done)|try simp only [h])|fail))
        rw [hres, hno hvf]; rfl
    · rw [List.take_of_length_le (by omega)] at hok
      (repeat' (first|refine Run.ct rfl ?_|((first|refine Run.reg mixed ?_|refine Run.condM ?_|(refine Run.retP g_syntax_Valid (σ2 := σ) (le_setBlk hj) ?_)|(refine xo_gs rfl (fun h => ?_) (fun h => ?_) <;> try (cases h; done))) <;> try simp -implicitDefEqProofs only [lt_f hlt, go_sem, Nat.reduceEqDiff, Nat.reduceBEq, Nat.reduceAdd, Nat.reduceLeDiff, reduceIte, reduceCtorEq])|(refine ⟨fun h => ?_, fun h => ?_⟩ <;> first|(cases h; done)|try simp only [h])|fail))
      rw [hres, hok]; rfl
end Go.Ab
