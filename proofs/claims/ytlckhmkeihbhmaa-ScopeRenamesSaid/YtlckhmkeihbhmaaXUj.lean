/- Valid programs, as the reference looks at them. Conditions: none. -/
import Derived.Test.YtlckhmkeihbhmaaXUi
set_option linter.unusedSimpArgs false
namespace Go.Ab
open Go.Proofs
set_option maxHeartbeats 4000000 in
theorem r4_Valid_L3_ok (ds : List DE) (fs : List FE) (σ σ3 : Heap) (j : Nat) (hle : σ.le σ3) (hb : σ3.blk j = some [.d (.int .i64 600)]) (hsj : σ.blk j = none) (hres : validB ⟨ds, fs⟩ = (fs.foldlM vFun 600).isSome) (hf24 : fs.length ≤ 24) :
    Run x_r4_Valid (fun v σ' => v = .d (.bool (validB ⟨ds, fs⟩)) ∧ σ' = σ) [.code (.loop c_r4_Valid_L3), .blk 6, .code (.seq (.reg [⟨some 2, .mv (.c (.d (.bool true))), none⟩] [2]) .ret)] (put 1 (.lp 1 0) (put 7 (.gp j 0) (put 8 (.d (.int .i64 0)) U))) (putL 1 [.d (.sl (ds.map DE.enc)), .d (.sl (fs.map FE.enc))] E) σ3 := by
  refine Run.loopA ?_
  refine Run.heapEq' (σ' := σ3.setBlk j [.d (.int .i64 (encR 600))]) (setBlk_same hb) ?_
  refine Run.loopI ((fun (a1 : AV) (a7 : AV) => fun (y : Nat × Nat) => put 1 a1 (put 7 a7 (put 8 (.d (.int .i64 y.1)) U))) _ _) (fun _ => putL 1 [.d (.sl (ds.map DE.enc)), .d (.sl (fs.map FE.enc))] E) (fun y => σ3.setBlk j [.d (.int .i64 (encR y.2))])
    (fun y => y.1 ≤ fs.length ∧ y.2 ≤ 600 ∧ (fs.take y.1).foldlM vFun 600 = some y.2) (fun y => fs.length - y.1) ?_ (0, 600) ⟨by simp, by simp, rfl⟩
  rintro ⟨i, q⟩ ⟨hi, hq, hok⟩ ih
  simp only at hi hq hok
  have hσ : ∀ z : Int, σ.le (σ3.setBlk j [.d (.int .i64 z)]) := fun z => le_set hle hsj
  by_cases hlt : i < fs.length
  · obtain ⟨x, hx⟩ := ex_at hlt
    have he := row_at (enc := FE.enc) hx
    have hw1 := wrap_succ (show i + 1 ≤ 9000000000000000000 by omega)
    have hnm := r4_single_ok x.name 1 (σ3.setBlk j [.d (.int .i64 (encR q))])
    rw [show singleB 1 x.name = nameB x.name from rfl] at hnm
    have hps := r4_binds_ok x.params true (σ3.setBlk j [.d (.int .i64 (encR q))])
    rw [bindsB_true] at hps
    have hc := r4_validExpr_ok j 40 q (Nat.le_refl _) hq x.body (σ3.setBlk j [.d (.int .i64 (encR q))]) (by simp only [setBlk_get, if_true])
    rw [show ((40 : Nat) : Int) = 40 from rfl] at hc
    have hno : vFun q x = none → fs.foldlM vFun 600 = none := fun h => foldM_none hok hx h
    have hyes : ∀ r, vFun q x = some r → (fs.take (i + 1)).foldlM vFun 600 = some r := fun r h => by rw [foldM_snoc hok hx, h]
    have hvf : vFun q x = if nameB x.name && (decide (x.params.length ≤ 6) && x.params.all nameB) then vEx 40 q x.body else none := by
      unfold vFun headB; rw [Bool.and_assoc]
    generalize (decide (x.params.length ≤ 6) && x.params.all nameB) = bp at hps hvf
    cases h1 : nameB x.name with
    | false =>
      rw [h1] at hnm hvf
      obtain ⟨nm, ps, o, n, u, ns, ks, al⟩ := x
      simp only [FE.enc, Ex.enc_mk] at he hnm
      (repeat' (first|refine Run.ct rfl ?_|((first|refine Run.reg mixed ?_|refine Run.condM ?_|(refine Run.retP g_r4_Valid (σ2 := σ) (hσ _) ?_)|refine XCall.det (hnm) ?_|(refine xo_gs rfl (fun h => ?_) (fun h => ?_) <;> try (cases h; done))) <;> try simp -implicitDefEqProofs only [lt_t hlt, he, List.length_map, go_sem, Nat.reduceEqDiff, Nat.reduceBEq, Nat.reduceAdd, Nat.reduceLeDiff, reduceIte, reduceCtorEq])|(refine ⟨fun h => ?_, fun h => ?_⟩ <;> first|(cases h; done)|try simp only [h])|fail))
      rw [hres, hno hvf]; rfl
    | true =>
    rw [h1] at hnm
    cases bp with
    | false =>
      rw [h1] at hvf
      obtain ⟨nm, ps, o, n, u, ns, ks, al⟩ := x
      simp only [FE.enc, Ex.enc_mk] at he hnm hps
      (repeat' (first|refine Run.ct rfl ?_|((first|refine Run.reg mixed ?_|refine Run.condM ?_|(refine Run.retP g_r4_Valid (σ2 := σ) (hσ _) ?_)|refine XCall.det (hnm) ?_|refine XCall.det (hps) ?_|(refine xo_gs rfl (fun h => ?_) (fun h => ?_) <;> try (cases h; done))) <;> try simp -implicitDefEqProofs only [lt_t hlt, he, List.length_map, go_sem, Nat.reduceEqDiff, Nat.reduceBEq, Nat.reduceAdd, Nat.reduceLeDiff, reduceIte, reduceCtorEq])|(refine ⟨fun h => ?_, fun h => ?_⟩ <;> first|(cases h; done)|try simp only [h])|fail))
      rw [hres, hno hvf]; rfl
    | true =>
    rw [h1] at hvf
    cases hv : vEx 40 q x.body with
    | some r =>
      have hr := vEx_le _ _ _ _ hv
      rw [hv] at hvf
      have hc := VXQ.yes hc hv
      have hs := hyes r hvf
      obtain ⟨nm, ps, o, n, u, ns, ks, al⟩ := x
      simp only [FE.enc, Ex.enc_mk, exA, List.map_cons, List.map_nil] at he hnm hps hc
      (repeat' (first|refine Run.ct rfl ?_|((first|refine Run.reg mixed ?_|refine Run.condM ?_|(refine XCall.mk rfl hc ?_; rintro _ _ ⟨rfl, rfl⟩)|refine XCall.det (hnm) ?_|refine XCall.det (hps) ?_|(refine xo_gs rfl (fun h => ?_) (fun h => ?_) <;> try (cases h; done))) <;> try simp -implicitDefEqProofs only [lt_t hlt, he, hw1, List.length_map, go_sem, Nat.reduceEqDiff, Nat.reduceBEq, Nat.reduceAdd, Nat.reduceLeDiff, reduceIte, reduceCtorEq])|(refine ⟨fun h => ?_, fun h => ?_⟩ <;> first|(cases h; done)|try simp only [h])|fail))
      exact ih (i + 1, r) ⟨by simp only; omega, by simp only; omega, hs⟩ (by simp only; omega)
    | none =>
      rw [hv] at hvf
      have hc := VXQ.no hc hv
      obtain ⟨nm, ps, o, n, u, ns, ks, al⟩ := x
      simp only [FE.enc, Ex.enc_mk, exA, List.map_cons, List.map_nil] at he hnm hps hc
      (repeat' (first|refine Run.ct rfl ?_|((first|refine Run.reg mixed ?_|refine Run.condM ?_|(refine XCall.mk rfl hc ?_; rintro _ _ ⟨rfl, z, rfl⟩)|(refine Run.retP g_r4_Valid (σ2 := σ) (hσ _) ?_)|refine XCall.det (hnm) ?_|refine XCall.det (hps) ?_|(refine xo_gs rfl (fun h => ?_) (fun h => ?_) <;> try (cases h; done))) <;> try simp -implicitDefEqProofs only [lt_t hlt, he, hw1, List.length_map, go_sem, Nat.reduceEqDiff, Nat.reduceBEq, Nat.reduceAdd, Nat.reduceLeDiff, reduceIte, reduceCtorEq])|(refine ⟨fun h => ?_, fun h => ?_⟩ <;> first|(cases h; done)|try simp only [h])|fail))
      rw [hres, hno hvf]; rfl
  · rw [List.take_of_length_le (by omega)] at hok
    (repeat' (first|refine Run.ct rfl ?_|((first|refine Run.reg mixed ?_|refine Run.condM ?_|(refine Run.retP g_r4_Valid (σ2 := σ) (hσ _) ?_)|(refine xo_gs rfl (fun h => ?_) (fun h => ?_) <;> try (cases h; done))) <;> try simp -implicitDefEqProofs only [lt_f hlt, List.length_map, go_sem, Nat.reduceEqDiff, Nat.reduceBEq, Nat.reduceAdd, Nat.reduceLeDiff, reduceIte, reduceCtorEq])|(refine ⟨fun h => ?_, fun h => ?_⟩ <;> first|(cases h; done)|try simp only [h])|fail))
    rw [hres, hok]; rfl
set_option maxHeartbeats 4000000 in
theorem r4_Valid_ok (p : Pg) (σ : Heap) (h : ∀ d ∈ p.data, smallDE d) : ACalls Try.prog 5 [pgA p] σ (fun v σ' => v = .d (.bool (validB p)) ∧ σ' = σ) := by
  obtain ⟨ds, fs⟩ := p
  refine i_r4_Valid (by simp) ?_
  rw [argF_1, pgA]
  simp only [Pg.enc, List.map_cons, List.map_nil] at h ⊢
  have h12 : decide ((12 : Int) < (ds.length : Int)) = !decide (ds.length ≤ 12) := gtN _ 12
  have h24 : decide ((24 : Int) < (fs.length : Int)) = !decide (fs.length ≤ 24) := gtN _ 24
  by_cases hd : ds.length ≤ 12
  case neg =>
    (repeat' (first|refine Run.ct rfl ?_|((first|refine Run.reg mixed ?_|refine Run.condM ?_|refine Run.retP g_r4_Valid (Heap.le_refl _) ?_|(refine xo_gs rfl (fun h => ?_) (fun h => ?_) <;> try (cases h; done))) <;> try simp -implicitDefEqProofs only [List.length_map, h12, decide_eq_false hd, go_sem, Nat.reduceEqDiff, Nat.reduceBEq, Nat.reduceAdd, Nat.reduceLeDiff, reduceIte, reduceCtorEq])|(refine ⟨fun h => ?_, fun h => ?_⟩ <;> first|(cases h; done)|try simp only [h])|fail))
    simp [validB, hd]
  by_cases hf : fs.length ≤ 24
  case neg =>
    (repeat' (first|refine Run.ct rfl ?_|((first|refine Run.reg mixed ?_|refine Run.condM ?_|refine Run.retP g_r4_Valid (Heap.le_refl _) ?_|(refine xo_gs rfl (fun h => ?_) (fun h => ?_) <;> try (cases h; done))) <;> try simp -implicitDefEqProofs only [List.length_map, h12, decide_eq_true hd, h24, decide_eq_false hf, go_sem, Nat.reduceEqDiff, Nat.reduceBEq, Nat.reduceAdd, Nat.reduceLeDiff, reduceIte, reduceCtorEq])|(refine ⟨fun h => ?_, fun h => ?_⟩ <;> first|(cases h; done)|try simp only [h])|fail))
    simp [validB, hf]
  have hres : validB ⟨ds, fs⟩ = (ds.all dataB && (fs.foldlM vFun 600).isSome) := by simp [validB, hd, hf]
  have hbad : ∀ d ∈ ds, dataB d = false → validB ⟨ds, fs⟩ = false := fun d hm hb => by
    rw [hres, List.all_eq_false.2 ⟨d, hm, by simp [hb]⟩]; rfl
  (repeat' (first|refine Run.ct rfl ?_|((first|refine Run.reg mixed ?_|refine Run.condM ?_|(refine xo_gs rfl (fun h => ?_) (fun h => ?_) <;> try (cases h; done))) <;> try simp -implicitDefEqProofs only [List.length_map, h12, decide_eq_true hd, h24, decide_eq_true hf, go_sem, Nat.reduceEqDiff, Nat.reduceBEq, Nat.reduceAdd, Nat.reduceLeDiff, reduceIte, reduceCtorEq])|(refine ⟨fun h => ?_, fun h => ?_⟩ <;> first|(cases h; done)|try simp only [h])|fail))
  refine Run.loopA ?_
  refine Run.loopI ((fun (a1 : AV) => fun (i : Nat) => put 1 a1 (put 3 (.d (.int .i64 i)) U)) _) (fun _ => putL 1 [.d (.sl (ds.map DE.enc)), .d (.sl (fs.map FE.enc))] E) (fun _ => σ) (fun i => i ≤ ds.length ∧ (ds.take i).all dataB = true) (fun i => ds.length - i) ?_ 0 ⟨by simp, by simp⟩
  rintro i ⟨hi, hok⟩ ih
  by_cases hlt : i < ds.length
  · obtain ⟨x, hx⟩ := ex_at hlt
    have hxm := List.mem_of_getElem? hx
    have he := row_at (enc := DE.enc) hx
    have hw1 := wrap_succ (show i + 1 ≤ 9000000000000000000 by omega)
    have hxs := h x hxm
    have hbx := hbad x hxm
    have hs := fun hp => all_snoc (p := dataB) hok hx hp
    have hnm := r4_single_ok x.name 2 σ
    rw [show singleB 2 x.name = upperB x.name from rfl] at hnm
    have hbs := r4_binds_ok x.vars true σ
    rw [bindsB_true] at hbs
    have h8 : decide ((8 : Int) < (x.cons.length : Int)) = !decide (x.cons.length ≤ 8) := gtN _ 8
    have hl1 : decide ((x.cons.length : Int) < 1) = !decide (1 ≤ x.cons.length) := by
      rw [Bool.eq_iff_iff]; simp only [decide_eq_true_eq, Bool.not_eq_true', decide_eq_false_iff_not]; omega
    have hdx : dataB x = (((upperB x.name && (decide (x.vars.length ≤ 6) && x.vars.all nameB)) && (decide (1 ≤ x.cons.length) && decide (x.cons.length ≤ 8))) && x.cons.all conB) := by
      simp [dataB, Bool.and_assoc]
    obtain ⟨nm, vs, cs⟩ := x
    simp only [DE.enc] at he hnm hbs h8 hl1 hdx hxs
    cases hA : upperB nm with
    | false =>
      rw [hA] at hnm hdx
      (repeat' (first|refine Run.ct rfl ?_|((first|refine Run.reg mixed ?_|refine Run.condM ?_|refine Run.retP g_r4_Valid (Heap.le_refl _) ?_|refine XCall.det (hnm) ?_|(refine xo_gs rfl (fun h => ?_) (fun h => ?_) <;> try (cases h; done))) <;> try simp -implicitDefEqProofs only [lt_t hlt, he, List.length_map, go_sem, Nat.reduceEqDiff, Nat.reduceBEq, Nat.reduceAdd, Nat.reduceLeDiff, reduceIte, reduceCtorEq])|(refine ⟨fun h => ?_, fun h => ?_⟩ <;> first|(cases h; done)|try simp only [h])|fail))
      rw [hbx hdx]
    | true =>
    rw [hA] at hnm
    cases hB : (decide (vs.length ≤ 6) && vs.all nameB) with
    | false =>
      rw [hB] at hbs
      rw [hA, hB] at hdx
      (repeat' (first|refine Run.ct rfl ?_|((first|refine Run.reg mixed ?_|refine Run.condM ?_|refine Run.retP g_r4_Valid (Heap.le_refl _) ?_|refine XCall.det (hnm) ?_|refine XCall.det (hbs) ?_|(refine xo_gs rfl (fun h => ?_) (fun h => ?_) <;> try (cases h; done))) <;> try simp -implicitDefEqProofs only [lt_t hlt, he, List.length_map, go_sem, Nat.reduceEqDiff, Nat.reduceBEq, Nat.reduceAdd, Nat.reduceLeDiff, reduceIte, reduceCtorEq])|(refine ⟨fun h => ?_, fun h => ?_⟩ <;> first|(cases h; done)|try simp only [h])|fail))
      rw [hbx hdx]
    | true =>
    rw [hB] at hbs
    by_cases hC : 1 ≤ cs.length
    case neg =>
      rw [decide_eq_false hC] at hl1 hdx
      (repeat' (first|refine Run.ct rfl ?_|((first|refine Run.reg mixed ?_|refine Run.condM ?_|refine Run.retP g_r4_Valid (Heap.le_refl _) ?_|refine XCall.det (hnm) ?_|refine XCall.det (hbs) ?_|(refine xo_gs rfl (fun h => ?_) (fun h => ?_) <;> try (cases h; done))) <;> try simp -implicitDefEqProofs only [lt_t hlt, he, List.length_map, hl1, go_sem, Nat.reduceEqDiff, Nat.reduceBEq, Nat.reduceAdd, Nat.reduceLeDiff, reduceIte, reduceCtorEq])|(refine ⟨fun h => ?_, fun h => ?_⟩ <;> first|(cases h; done)|try simp only [h])|fail))
      rw [hbx (by rw [hdx]; simp)]
    rw [decide_eq_true hC] at hl1
    by_cases hD : cs.length ≤ 8
    case neg =>
      rw [decide_eq_false hD] at h8 hdx
      (repeat' (first|refine Run.ct rfl ?_|((first|refine Run.reg mixed ?_|refine Run.condM ?_|refine Run.retP g_r4_Valid (Heap.le_refl _) ?_|refine XCall.det (hnm) ?_|refine XCall.det (hbs) ?_|(refine xo_gs rfl (fun h => ?_) (fun h => ?_) <;> try (cases h; done))) <;> try simp -implicitDefEqProofs only [lt_t hlt, he, List.length_map, hl1, h8, go_sem, Nat.reduceEqDiff, Nat.reduceBEq, Nat.reduceAdd, Nat.reduceLeDiff, reduceIte, reduceCtorEq])|(refine ⟨fun h => ?_, fun h => ?_⟩ <;> first|(cases h; done)|try simp only [h])|fail))
      rw [hbx (by rw [hdx]; simp)]
    rw [decide_eq_true hD] at h8
    rw [hA, hB, decide_eq_true hC, decide_eq_true hD] at hdx
    simp only [Bool.and_self, Bool.true_and] at hdx
    rw [hdx] at hbx hs
    (repeat' (first|refine Run.ct rfl ?_|((first|refine Run.reg mixed ?_|refine Run.condM ?_|refine XCall.det (hnm) ?_|refine XCall.det (hbs) ?_|(refine xo_gs rfl (fun h => ?_) (fun h => ?_) <;> try (cases h; done))) <;> try simp -implicitDefEqProofs only [lt_t hlt, he, List.length_map, hl1, h8, go_sem, Nat.reduceEqDiff, Nat.reduceBEq, Nat.reduceAdd, Nat.reduceLeDiff, reduceIte, reduceCtorEq])|(refine ⟨fun h => ?_, fun h => ?_⟩ <;> first|(cases h; done)|try simp only [h])|fail))
    refine Run.loopA ?_
    refine Run.loopI ((fun (a1 : AV) (a3 : AV) (a4 : AV) => fun (k : Nat) => put 1 a1 (put 3 a3 (put 4 a4 (put 5 (.d (.int .i64 k)) U)))) _ _ _) (fun _ => putL 1 [.d (.sl (ds.map DE.enc)), .d (.sl (fs.map FE.enc))] (putL 4 [.d (.str nm), .d (.sl (vs.map sRow)), .d (.sl (cs.map CE.enc))] E)) (fun _ => σ) (fun k => k ≤ cs.length ∧ (cs.take k).all conB = true) (fun k => cs.length - k) ?_ 0 ⟨by simp, by simp⟩
    rintro k ⟨hk, hokc⟩ ih2
    by_cases hkl : k < cs.length
    · obtain ⟨c, hc⟩ := ex_at hkl
      have hcm := List.mem_of_getElem? hc
      have hec := row_at (enc := CE.enc) hc
      have hwk := wrap_succ (show k + 1 ≤ 9000000000000000000 by omega)
      have hcs := hxs c hcm
      have hbc : conB c = false → validB ⟨ds, fs⟩ = false := fun hb => hbx (List.all_eq_false.2 ⟨c, hcm, by simp [hb]⟩)
      have hsc := fun hp => all_snoc (p := conB) hokc hc hp
      have hcn := r4_single_ok c.name 2 σ
      rw [show singleB 2 c.name = upperB c.name from rfl] at hcn
      have h6 : decide ((6 : Int) < (c.args.length : Int)) = !decide (c.args.length ≤ 6) := gtN _ 6
      have hcx : conB c = (upperB c.name && decide (c.args.length ≤ 6) && c.args.all (validTE 40)) := rfl
      obtain ⟨cn, ar⟩ := c
      simp only [CE.enc] at hec hcn h6 hcx hcs
      cases hE : upperB cn with
      | false =>
        rw [hE] at hcn hcx
        (repeat' (first|refine Run.ct rfl ?_|((first|refine Run.reg mixed ?_|refine Run.condM ?_|refine Run.retP g_r4_Valid (Heap.le_refl _) ?_|refine XCall.det (hcn) ?_|(refine xo_gs rfl (fun h => ?_) (fun h => ?_) <;> try (cases h; done))) <;> try simp -implicitDefEqProofs only [lt_t hkl, hec, List.length_map, go_sem, Nat.reduceEqDiff, Nat.reduceBEq, Nat.reduceAdd, Nat.reduceLeDiff, reduceIte, reduceCtorEq])|(refine ⟨fun h => ?_, fun h => ?_⟩ <;> first|(cases h; done)|try simp only [h])|fail))
        rw [hbc hcx]
      | true =>
      rw [hE] at hcn
      by_cases hF : ar.length ≤ 6
      case neg =>
        rw [decide_eq_false hF] at h6 hcx
        (repeat' (first|refine Run.ct rfl ?_|((first|refine Run.reg mixed ?_|refine Run.condM ?_|refine Run.retP g_r4_Valid (Heap.le_refl _) ?_|refine XCall.det (hcn) ?_|(refine xo_gs rfl (fun h => ?_) (fun h => ?_) <;> try (cases h; done))) <;> try simp -implicitDefEqProofs only [lt_t hkl, hec, List.length_map, h6, go_sem, Nat.reduceEqDiff, Nat.reduceBEq, Nat.reduceAdd, Nat.reduceLeDiff, reduceIte, reduceCtorEq])|(refine ⟨fun h => ?_, fun h => ?_⟩ <;> first|(cases h; done)|try simp only [h])|fail))
        rw [hbc (by rw [hcx]; simp)]
      rw [decide_eq_true hF] at h6
      rw [hE, decide_eq_true hF] at hcx
      simp only [Bool.and_self, Bool.true_and] at hcx
      rw [hcx] at hbc hsc
      (repeat' (first|refine Run.ct rfl ?_|((first|refine Run.reg mixed ?_|refine Run.condM ?_|refine XCall.det (hcn) ?_|(refine xo_gs rfl (fun h => ?_) (fun h => ?_) <;> try (cases h; done))) <;> try simp -implicitDefEqProofs only [lt_t hkl, hec, List.length_map, h6, go_sem, Nat.reduceEqDiff, Nat.reduceBEq, Nat.reduceAdd, Nat.reduceLeDiff, reduceIte, reduceCtorEq])|(refine ⟨fun h => ?_, fun h => ?_⟩ <;> first|(cases h; done)|try simp only [h])|fail))
      refine Run.loopA ?_
      refine Run.loopI ((fun (a1 : AV) (a3 : AV) (a4 : AV) (a5 : AV) => fun (a : Nat) => put 1 a1 (put 3 a3 (put 4 a4 (put 5 a5 (put 6 (.d (.int .i64 a)) U))))) _ _ _ _) (fun _ => putL 1 [.d (.sl (ds.map DE.enc)), .d (.sl (fs.map FE.enc))] (putL 4 [.d (.str nm), .d (.sl (vs.map sRow)), .d (.sl (cs.map CE.enc))] E)) (fun _ => σ) (fun a => a ≤ ar.length ∧ (ar.take a).all (validTE 40) = true) (fun a => ar.length - a) ?_ 0 ⟨by simp, by simp⟩
      rintro a ⟨ha, hoka⟩ ih3
      by_cases hal : a < ar.length
      · obtain ⟨t, ht⟩ := ex_at hal
        have htm := List.mem_of_getElem? ht
        have het := row_at (enc := TE.enc) ht
        have hwa := wrap_succ (show a + 1 ≤ 9000000000000000000 by omega)
        have hv := r4_validType_ok 40 t σ (Nat.le_refl _) (hcs t htm)
        rw [show ((40 : Nat) : Int) = 40 from rfl] at hv
        cases hp : validTE 40 t with
        | true =>
          rw [hp] at hv
          obtain ⟨tk, tn, tl⟩ := t
          simp only [TE.enc_mk, teA, List.map_cons, List.map_nil] at het hv
          (repeat' (first|refine Run.ct rfl ?_|((first|refine Run.reg mixed ?_|refine Run.condM ?_|refine XCall.det (hv) ?_|(refine xo_gs rfl (fun h => ?_) (fun h => ?_) <;> try (cases h; done))) <;> try simp -implicitDefEqProofs only [lt_t hal, hec, het, hwa, List.length_map, go_sem, Nat.reduceEqDiff, Nat.reduceBEq, Nat.reduceAdd, Nat.reduceLeDiff, reduceIte, reduceCtorEq])|(refine ⟨fun h => ?_, fun h => ?_⟩ <;> first|(cases h; done)|try simp only [h])|fail))
          exact ih3 (a + 1) ⟨by omega, all_snoc hoka ht hp⟩ (by omega)
        | false =>
          rw [hp] at hv
          obtain ⟨tk, tn, tl⟩ := t
          simp only [TE.enc_mk, teA, List.map_cons, List.map_nil] at het hv
          (repeat' (first|refine Run.ct rfl ?_|((first|refine Run.reg mixed ?_|refine Run.condM ?_|refine Run.retP g_r4_Valid (Heap.le_refl _) ?_|refine XCall.det (hv) ?_|(refine xo_gs rfl (fun h => ?_) (fun h => ?_) <;> try (cases h; done))) <;> try simp -implicitDefEqProofs only [lt_t hal, hec, het, hwa, List.length_map, go_sem, Nat.reduceEqDiff, Nat.reduceBEq, Nat.reduceAdd, Nat.reduceLeDiff, reduceIte, reduceCtorEq])|(refine ⟨fun h => ?_, fun h => ?_⟩ <;> first|(cases h; done)|try simp only [h])|fail))
          rw [hbc (all_at ht hp)]
      · rw [List.take_of_length_le (by omega)] at hoka
        (repeat' (first|refine Run.ct rfl ?_|((first|refine Run.reg mixed ?_|refine Run.condM ?_|(refine xo_gs rfl (fun h => ?_) (fun h => ?_) <;> try (cases h; done))) <;> try simp -implicitDefEqProofs only [lt_f hal, hec, hwk, List.length_map, go_sem, Nat.reduceEqDiff, Nat.reduceBEq, Nat.reduceAdd, Nat.reduceLeDiff, reduceIte, reduceCtorEq])|(refine ⟨fun h => ?_, fun h => ?_⟩ <;> first|(cases h; done)|try simp only [h])|fail))
        exact ih2 (k + 1) ⟨by omega, hsc hoka⟩ (by omega)
    · rw [List.take_of_length_le (by omega)] at hokc
      (repeat' (first|refine Run.ct rfl ?_|((first|refine Run.reg mixed ?_|refine Run.condM ?_|(refine xo_gs rfl (fun h => ?_) (fun h => ?_) <;> try (cases h; done))) <;> try simp -implicitDefEqProofs only [lt_f hkl, hw1, List.length_map, go_sem, Nat.reduceEqDiff, Nat.reduceBEq, Nat.reduceAdd, Nat.reduceLeDiff, reduceIte, reduceCtorEq])|(refine ⟨fun h => ?_, fun h => ?_⟩ <;> first|(cases h; done)|try simp only [h])|fail))
      exact ih (i + 1) ⟨by omega, hs hokc⟩ (by omega)
  · rw [List.take_of_length_le (by omega)] at hok
    rw [hok, Bool.true_and] at hres
    clear ih
    (repeat' (first|refine Run.ct rfl ?_|((first|refine Run.reg mixed ?_|refine Run.condM ?_|(refine xo_gs rfl (fun h => ?_) (fun h => ?_) <;> try (cases h; done))) <;> try simp -implicitDefEqProofs only [lt_f hlt, List.length_map, go_sem, Nat.reduceEqDiff, Nat.reduceBEq, Nat.reduceAdd, Nat.reduceLeDiff, reduceIte, reduceCtorEq])|(refine ⟨fun h => ?_, fun h => ?_⟩ <;> first|(cases h; done)|try simp only [h])|fail))
    intro j hj
    obtain ⟨hle3, hb⟩ := alt_le (z := [.d (.int .i64 0)]) (x := ([AV.d (.int .i64 0)].length, 3)) hj
    simp only [List.length_cons, List.length_nil, Nat.zero_add] at hle3 hb
    generalize (σ.setBlk j [.d (.int .i64 0)]).setBt j (1, 3) = σ3 at hle3 hb ⊢
    simp -implicitDefEqProofs only [hb, go_sem, Nat.reduceEqDiff, Nat.reduceBEq, Nat.reduceAdd, Nat.reduceLeDiff, reduceIte, reduceCtorEq]
    (repeat' (first|refine Run.ct rfl ?_|((first|refine Run.reg mixed ?_|refine Run.condM ?_|(refine xo_gs rfl (fun h => ?_) (fun h => ?_) <;> try (cases h; done))) <;> try simp -implicitDefEqProofs only [hb, List.length_map, go_sem, Nat.reduceEqDiff, Nat.reduceBEq, Nat.reduceAdd, Nat.reduceLeDiff, reduceIte, reduceCtorEq])|(refine ⟨fun h => ?_, fun h => ?_⟩ <;> first|(cases h; done)|try simp only [h])|fail))
    exact r4_Valid_L3_ok ds fs σ (σ3.setBlk j [.d (.int .i64 600)]) j (le_set hle3 hj.1) (by simp only [setBlk_get, if_true]) hj.1 hres hf
end Go.Ab
