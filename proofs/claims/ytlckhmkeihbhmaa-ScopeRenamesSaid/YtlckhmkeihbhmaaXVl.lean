/- Scope: the constructors of a declaration resolved. Scope: a declaration resolved. Scope: the declarations resolved. Conditions: none. -/
import Derived.Test.YtlckhmkeihbhmaaXVi
set_option linter.unusedSimpArgs false
namespace Go.Ab
open Go.Proofs
def DQ (σ0 : Heap) (jr : Nat) (dl : List Dat) (r : Except Int Dat) (v : AV) (σ' : Heap) : Prop := match r with
  | .error e => v = .d (.int .i64 e) ∧ e ≠ 0 ∧ σ0.le σ'
  | .ok x => v = .d (.int .i64 0) ∧ σ0.le σ' ∧ ∃ dv y1 y2 y3, σ'.blk jr = some [dv, y1, y2, y3] ∧ (y1.isCell = true ∧ y2.isCell = true ∧ y3.isCell = true) ∧ DlX σ0 jr σ' (dl ++ [x]) dv
theorem argsP_ne {ds : List (Str × Nat)} {vars : List Str} : ∀ {l : List TE} {e : Int}, argsP ds vars l = .error e → e ≠ 0
  | [], e, h => by cases h
  | t :: l, e, h => by
    rw [argsP] at h
    cases ht : resP ds vars true t with
    | error e' => rw [ht] at h; cases h; exact resP_ne t true _ ht
    | ok u =>
      rw [ht] at h
      cases hl : argsP ds vars l with
      | error e' => rw [hl] at h; cases h; exact argsP_ne hl
      | ok us => rw [hl] at h; cases h
theorem usedD_app (l m : List Dat) : usedD (l ++ m) = usedD l ++ usedD m := by simp [usedD]
abbrev eC : Nat := 104
def RCon (σ0 : Heap) (jr : Nat) (dl : List Dat) (nm : Str) (vs : List Str) (cs : List CE) (jd : Nat) (cells : List AV) (p : Nat) (us : List Con) (F' : Fm) (L' : Lm) (σ' : Heap) : Prop :=
  keep [0, 5, 52, 53, 54] F' = put 0 (.gp jr 0) (put 5 (.d (.int .i64 (dl.length : Int))) (put 52 (.d (.sl (cs.map CE.enc))) (put 53 (.d (.int .i64 cs.length)) (put 54 (.d (.int .i64 p)) U)))) ∧ keepL [0, 5, 52, 53, 54] L' = E ∧
    ∃ cv', APS σ0 jr dl nm vs.length cv' (.d (.str nm)) (.d (.sl (vs.map sRow))) (.d (.sl (cs.map CE.enc))) jd cells σ' ∧ OwnS σ0 eC 2 (us.map Con.enc) cv' σ'
set_option maxRecDepth 4000 in
set_option maxHeartbeats 8000000 in
theorem declare_L1 (σ0 : Heap) (jr : Nat) (dl : List Dat) (hdl : dl.length ≤ 1000) (hnn : ∀ d ∈ dl, 0 ≤ d.vars) (hdt : DtOk dl) (nm : Str) (vs : List Str) (cs : List CE) (hcs : cs.length ≤ 1000) (hsm : ∀ c ∈ cs, smallCE c ∧ c.args.length ≤ 1000)
    (τ : Heap) (jd : Nat) (cells : List AV) (hjr : σ0.blk jr = none) (haps : APS σ0 jr dl nm vs.length .nils (.d (.str nm)) (.d (.sl (vs.map sRow))) (.d (.sl (cs.map CE.enc))) jd cells τ) :
    Run x_scope_resolver_declare (DQ σ0 jr dl ((consP (dsOf dl ++ [(nm, vs.length)]) vs (usedD dl) cs).map (⟨nm, vs.length, ·⟩))) [.code (.loop c_scope_resolver_declare_L1), .blk 0, .code (.seq (.reg [⟨some 4, .mv (.c (.d (.int .i64 0))), none⟩] [4]) .ret)]
      (put 0 (.gp jr 0) (put 5 (.d (.int .i64 (dl.length : Int))) (put 52 (.d (.sl (cs.map CE.enc))) (put 53 (.d (.int .i64 cs.length)) (put 54 (.d (.int .i64 0)) U))))) E τ := by
  generalize hQ : DQ σ0 jr dl ((consP (dsOf dl ++ [(nm, vs.length)]) vs (usedD dl) cs).map (⟨nm, vs.length, ·⟩)) = Q
  have herr : ∀ (e : Int) (σ' : Heap), consP (dsOf dl ++ [(nm, vs.length)]) vs (usedD dl) cs = .error e → e ≠ 0 → σ0.le σ' → Q (.d (.int .i64 e)) σ' := fun e σ' h hne hl => by
    rw [← hQ, h]; exact ⟨rfl, hne, hl⟩
  have hfin : ∀ (us : List Con) (cv : AV) (σ' : Heap) , consP (dsOf dl ++ [(nm, vs.length)]) vs (usedD dl) cs = .ok us → SlV cv (us.map Con.enc) → APS σ0 jr dl nm vs.length cv (.d (.str nm)) (.d (.sl (vs.map sRow))) (.d (.sl (cs.map CE.enc))) jd cells σ' → Q (.d (.int .i64 0)) σ' := fun us cv σ' h hsl ha => by
    rw [← hQ, h]
    refine ⟨rfl, ha.le, _, _, _, _, ha.res, ⟨rfl, rfl, rfl⟩, .inr ⟨jd, _, by rw [List.length_append]; rfl, ha.nb, ha.ne, ha.row, ha.ok.snoc nm _ cv us hsl⟩⟩
  clear hQ
  refine Run.loopA ?_
  refine Run.loopI ((fun (a0 : AV) (a5 : AV) (a52 : AV) (a53 : AV) => fun (y : Nat × List Con × AV × Heap) => put 0 a0 (put 5 a5 (put 52 a52 (put 53 a53 (put 54 (.d (.int .i64 y.1)) U))))) _ _ _ _) (fun _ => E) (fun y => y.2.2.2)
    (fun y => y.1 ≤ cs.length ∧ y.2.1.length = y.1 ∧ consP (dsOf dl ++ [(nm, vs.length)]) vs (usedD dl) (cs.take y.1) = .ok y.2.1 ∧ APS σ0 jr dl nm vs.length y.2.2.1 (.d (.str nm)) (.d (.sl (vs.map sRow))) (.d (.sl (cs.map CE.enc))) jd cells y.2.2.2 ∧ OwnS σ0 eC 2 (y.2.1.map Con.enc) y.2.2.1 y.2.2.2)
    (fun y => cs.length - y.1) ?_ (0, [], .nils, τ) ⟨by simp, rfl, rfl, haps, ⟨⟨τ, rfl, haps.le⟩, haps.le, rfl, rfl, rfl, rfl, fun _ => rfl, rfl, rfl⟩⟩
  rintro ⟨p, us, cv, τ1⟩ ⟨hp, hlu, hok, haps, hown⟩ ih
  simp only at hp hlu hok haps hown
  by_cases hlt : p < cs.length
  · obtain ⟨c, hc⟩ := ex_at hlt
    have he := row_at (enc := CE.enc) hc
    have hw1 := wrap_succ (show p + 1 ≤ 9000000000000000000 by omega)
    obtain ⟨hall, hnames⟩ := consP_app (dsOf dl ++ [(nm, vs.length)]) vs (cs.drop p) hok
    rw [List.take_append_drop, drop_at hc] at hall
    obtain ⟨hsn, _⟩ := consP_app (dsOf dl ++ [(nm, vs.length)]) vs [c] hok
    rw [← take_snoc hc] at hsn
    obtain ⟨hcsm, hcal⟩ := hsm c (List.mem_of_getElem? hc)
    -- the rows with the partial declaration
    have hrows := haps.ok.snoc nm (vs.length : Int) cv us hown.slv
    have hlp : (dl ++ [(⟨nm, (vs.length : Int), us⟩ : Dat)]).length = dl.length + 1 := by simp
    have husl : us.length ≤ 1000000 := by omega
    have hdtp : DtOk (dl ++ [⟨nm, (vs.length : Int), us⟩]) := fun d hd => by
      rcases List.mem_append.1 hd with h | h
      · exact hdt d h
      · simp only [List.mem_singleton] at h; subst h; exact husl
    have hnnp : ∀ d ∈ dl ++ [(⟨nm, (vs.length : Int), us⟩ : Dat)], 0 ≤ d.vars := fun d hd => by
      rcases List.mem_append.1 hd with h | h
      · exact hnn d h
      · simp only [List.mem_singleton] at h; subst h; simp
    have hdsp : dsOf (dl ++ [⟨nm, (vs.length : Int), us⟩]) = dsOf dl ++ [(nm, vs.length)] := by simp [dsOf]
    have hudp : usedD (dl ++ [⟨nm, (vs.length : Int), us⟩]) = usedD dl ++ (cs.take p).map (·.name) := by
      rw [usedD_app, ← hnames]; simp [usedD]
    have hctr := Constructor_ms_ok (dl ++ [⟨nm, (vs.length : Int), us⟩]) hdtp (by rw [hlp]; omega) jd eD _ c.name τ1 haps.row hrows
    have hcu := ctrP_used c.name (dl ++ [⟨nm, (vs.length : Int), us⟩])
    rw [hudp] at hcu
    rw [hlp] at hctr
    have hRB : RB τ1 jr (dl ++ [⟨nm, (vs.length : Int), us⟩]) nm vs cs := ⟨_, haps.res, .inr ⟨jd, eD, _, by rw [hlp], haps.row, hrows⟩⟩
    have hres := haps.res
    generalize hdlp : dl ++ [(⟨nm, (vs.length : Int), us⟩ : Dat)] = dlp at *
    rw [consP] at hall hsn
    obtain ⟨cn, ar⟩ := c
    simp only [CE.enc] at he hcu hall hsn hctr hcal hcsm
    cases hct : ctrP dlp cn with
    | some x =>
      rw [hct] at hctr hcu
      simp only [ctrA, Option.isSome_some] at hctr hcu
      rw [← hcu, if_pos rfl] at hall
      (repeat' (first|refine Run.ct rfl ?_|((first|refine Run.reg mixed ?_|refine Run.condM ?_|refine Run.retR g_scope_resolver_declare (Heap.le_refl _) ?_|refine XCall.det (hctr) ?_|(refine xo_gs rfl (fun h => ?_) (fun h => ?_) <;> try (cases h; done))) <;> try simp -implicitDefEqProofs only [lt_t hlt, he, hres, go_sem, Nat.reduceEqDiff, Nat.reduceBEq, Nat.reduceAdd, Nat.reduceLeDiff, reduceIte, reduceCtorEq])|(refine ⟨fun h => ?_, fun h => ?_⟩ <;> first|(cases h; done)|try simp only [h])|fail))
      exact herr 4 _ hall (by decide) haps.le
    | none =>
    rw [hct] at hctr hcu
    simp only [ctrA, Option.isSome_none] at hctr hcu
    rw [← hcu, if_neg (by simp)] at hall hsn
    (repeat' (first|refine Run.ct rfl ?_|((first|refine Run.reg mixed ?_|refine Run.condM ?_|refine XCall.det (hctr) ?_|(refine xo_gs rfl (fun h => ?_) (fun h => ?_) <;> try (cases h; done))) <;> try simp -implicitDefEqProofs only [lt_t hlt, he, hres, List.length_map, go_sem, Nat.reduceEqDiff, Nat.reduceBEq, Nat.reduceAdd, Nat.reduceLeDiff, reduceIte, reduceCtorEq])|(refine ⟨fun h => ?_, fun h => ?_⟩ <;> first|(cases h; done)|try simp only [h])|fail))
    refine Run.loopA ?_
    refine Run.loopI ((fun (a0 : AV) (a5 : AV) (a11 : AV) (a52 : AV) (a53 : AV) (a54 : AV) (a74 : AV) (a75 : AV) => fun (z : Nat × List Ty × AV × Heap) => put 0 a0 (put 5 a5 (put 11 a11 (put 52 a52 (put 53 a53 (put 54 a54 (put 74 a74 (put 75 a75 (put 76 (.d (.int .i64 z.1)) U))))))))) _ _ _ _ _ _ _ _) (fun z => putL 11 [.d (.str cn), z.2.2.1] E) (fun z => z.2.2.2)
      (fun z => z.1 ≤ ar.length ∧ z.2.1.length = z.1 ∧ argsP (dsOf dl ++ [(nm, vs.length)]) vs (ar.take z.1) = .ok z.2.1 ∧ OwnS τ1 122 3 (z.2.1.map Ty.enc) z.2.2.1 z.2.2.2)
      (fun z => ar.length - z.1) ?_ (0, [], .nils, τ1) ⟨by simp, rfl, rfl, OwnS.nil _ _ _⟩
    rintro ⟨a, ts, uv, τ2⟩ ⟨ha, hlt', hoka, ho⟩ ih2
    simp only at ha hlt' hoka ho
    by_cases hal : a < ar.length
    · obtain ⟨x, hx⟩ := ex_at hal
      have hex := row_at (enc := TE.enc) hx
      have hwa := wrap_succ (show a + 1 ≤ 9000000000000000000 by omega)
      have hxs := hcsm x (List.mem_of_getElem? hx)
      have hra := resolve_ok jr dlp (by omega) hnnp nm vs cs x.size x true τ2 (Nat.le_refl _) hxs (hRB.le ho.le)
      rw [hdsp] at hra
      have hall2 : argsP (dsOf dl ++ [(nm, vs.length)]) vs ar = (argsP (dsOf dl ++ [(nm, vs.length)]) vs (x :: ar.drop (a + 1))).map (ts ++ ·) := by
        conv => lhs; rw [← List.take_append_drop a ar, drop_at hx]
        exact argsP_app _ _ _ hoka
      have hsn2 : argsP (dsOf dl ++ [(nm, vs.length)]) vs (ar.take (a + 1)) = (argsP (dsOf dl ++ [(nm, vs.length)]) vs [x]).map (ts ++ ·) := by
        rw [take_snoc hx]; exact argsP_app _ _ _ hoka
      rw [argsP] at hall2
      rw [argsP, argsP] at hsn2
      cases hr : resP (dsOf dl ++ [(nm, vs.length)]) vs true x with
      | error e =>
        rw [hr] at hra hall2
        simp only [Except.map] at hall2
        rw [hall2] at hall
        have hne := resP_ne x true e hr
        have hne' : (e != 0) = true := by simpa using hne
        obtain ⟨xk, xn, xl⟩ := x
        simp only [TE.enc_mk, teA, List.map_cons, List.map_nil, resA] at hex hra
        have hxe := herr e τ2 hall hne (Heap.le_trans haps.le ho.le)
        (repeat' (first|refine Run.ct rfl ?_|((first|refine Run.reg mixed ?_|refine Run.condM ?_|refine Run.retR g_scope_resolver_declare (Heap.le_refl _) ?_|refine XCall.det (hra) ?_|(refine xo_gs rfl (fun h => ?_) (fun h => ?_) <;> try (cases h; done))) <;> try simp -implicitDefEqProofs only [lt_t hal, hex, hne', ho.cell, go_sem, Nat.reduceEqDiff, Nat.reduceBEq, Nat.reduceAdd, Nat.reduceLeDiff, reduceIte, reduceCtorEq])|(refine ⟨fun h => ?_, fun h => ?_⟩ <;> first|(cases h; done)|try simp only [h])|fail))
        exact hxe
      | ok u =>
        rw [hr] at hra hsn2
        simp only [Except.map] at hsn2
        obtain ⟨uk, un, ul⟩ := u
        obtain ⟨xk, xn, xl⟩ := x
        simp only [TE.enc_mk, teA, List.map_cons, List.map_nil, resA, tyA, Ty.enc] at hex hra
        have h00 : ((0 : Int) != 0) = false := by decide
        (repeat' (first|refine Run.ct rfl ?_|((first|refine Run.reg mixed ?_|refine Run.condM ?_|(refine XApp.own ho rfl (by simp) (by simp; omega) (by decide) (fun v2 σ2 ho2 hbk => ?_))|refine XCall.det (hra) ?_|(refine xo_gs rfl (fun h => ?_) (fun h => ?_) <;> try (cases h; done))) <;> try simp -implicitDefEqProofs only [lt_t hal, hex, hwa, h00, ho.cell, ho.cells, ho.noLp, ho.lpOf, go_sem, Nat.reduceEqDiff, Nat.reduceBEq, Nat.reduceAdd, Nat.reduceLeDiff, reduceIte, reduceCtorEq])|(refine ⟨fun h => ?_, fun h => ?_⟩ <;> first|(cases h; done)|try simp only [h])|fail))
        simp -implicitDefEqProofs only [ho2.cells, ho2.cell, go_sem, Nat.reduceEqDiff, Nat.reduceBEq, Nat.reduceAdd, Nat.reduceLeDiff, reduceIte, reduceCtorEq]
        (repeat' (first|refine Run.ct rfl ?_|((first|refine Run.reg mixed ?_|refine Run.condM ?_|(refine xo_gs rfl (fun h => ?_) (fun h => ?_) <;> try (cases h; done))) <;> try simp -implicitDefEqProofs only [hwa, ho2.cell, ho2.cells, go_sem, Nat.reduceEqDiff, Nat.reduceBEq, Nat.reduceAdd, Nat.reduceLeDiff, reduceIte, reduceCtorEq])|(refine ⟨fun h => ?_, fun h => ?_⟩ <;> first|(cases h; done)|try simp only [h])|fail))
        exact ih2 (a + 1, ts ++ [.mk uk un ul], v2, σ2) ⟨by simp only; omega, by simp [hlt'], hsn2, by simpa [Ty.enc] using ho2⟩ (by simp only; omega)
    · rw [List.take_of_length_le (by omega)] at hoka
      rw [hoka] at hall hsn
      simp only [consP, Except.map] at hall hsn
      have haps2 : APS σ0 jr dl nm vs.length cv (.d (.str nm)) (.d (.sl (vs.map sRow))) (.d (.sl (cs.map CE.enc))) jd cells τ2 := ⟨ho.le.blk _ _ hres, haps.nb, haps.ne, ho.le.blk _ _ haps.row, haps.ok, Heap.le_trans haps.le ho.le⟩
      have hown2 := hown.up ho.le
      (repeat' (first|refine Run.ct rfl ?_|((first|refine Run.reg mixed ?_|refine Run.condM ?_|(refine xo_gs rfl (fun h => ?_) (fun h => ?_) <;> try (cases h; done))) <;> try simp -implicitDefEqProofs only [lt_f hal, go_sem, Nat.reduceEqDiff, Nat.reduceBEq, Nat.reduceAdd, Nat.reduceLeDiff, reduceIte, reduceCtorEq])|(refine ⟨fun h => ?_, fun h => ?_⟩ <;> first|(cases h; done)|try simp only [h])|fail))
      have hcl := haps.ok.1
      have hixl : ((dl.length : Int) < ((dl.length + 1 : Nat) : Int)) = True := by simp only [eq_iff_iff, iff_true]; omega
      have hget : (cells ++ [AV.d (.str nm), .d (.int .i64 (vs.length : Int)), cv])[dl.length * 3 + 2]? = some cv := by
        rw [List.getElem?_append_right (by omega), hcl, Nat.add_sub_cancel_left]; rfl
      have htk : List.take (dl.length * 3 + 2) (cells ++ [AV.d (.str nm), .d (.int .i64 (vs.length : Int)), cv]) = cells ++ [AV.d (.str nm), .d (.int .i64 (vs.length : Int))] := by
        rw [List.take_append, List.take_of_length_le (by omega), hcl, Nat.add_sub_cancel_left]; rfl
      have hdr : List.drop (dl.length * 3 + 2 + 1) (cells ++ [AV.d (.str nm), .d (.int .i64 (vs.length : Int)), cv]) = [] := by
        rw [List.drop_of_length_le (by simp; omega)]
      have hlen3 : (dl.length * 3 + 2 + 1 ≤ (cells ++ [AV.d (.str nm), .d (.int .i64 (vs.length : Int)), cv]).length) = True := by simp; omega
      have hend : ∀ (v3 : AV) (σ3 : Heap) (F' : Fm) (L' : Lm), keep [0, 5, 52, 53, 54] F' = put 0 (.gp jr 0) (put 5 (.d (.int .i64 (dl.length : Int))) (put 52 (.d (.sl (cs.map CE.enc))) (put 53 (.d (.int .i64 cs.length)) (put 54 (.d (.int .i64 p)) U)))) → keepL [0, 5, 52, 53, 54] L' = E →
          OwnS σ0 eC 2 (us.map Con.enc ++ [[.str cn, .sl (ts.map Ty.enc)]]) v3 σ3 → σ3.blk jr = some [.ms jd (dl.length + 1) 3 eD, .d (.str nm), .d (.sl (vs.map sRow)), .d (.sl (cs.map CE.enc))] →
          RCon σ0 jr dl nm vs cs jd cells p (us ++ [(⟨cn, ts⟩ : Con)]) F' L' (σ3.setBlk jd (cells ++ [AV.d (.str nm), .d (.int .i64 (vs.length : Int)), v3])) := fun v3 σ3 F' L' h1 h2 ho3 hr3 => by
        refine ⟨h1, h2, v3, ⟨by rw [setBlk_get, if_neg (Ne.symm haps.ne)]; exact hr3, haps.nb, haps.ne, by rw [setBlk_get, if_pos rfl], haps.ok, le_set ho3.le haps.nb⟩, ?_⟩
        have := ho3.set haps.nb (cells ++ [AV.d (.str nm), .d (.int .i64 (vs.length : Int)), v3])
        simpa [Con.enc, Ty.encs_map] using this
      refine Run.regTC mixed (RCon σ0 jr dl nm vs cs jd cells p (us ++ [(⟨cn, ts⟩ : Con)])) ?_ ?_
      · simp -implicitDefEqProofs only [haps2.res, haps2.row, hixl, hget, hown2.cell, hown.cell, ho.dv, ho.cell, go_sem, Nat.reduceEqDiff, Nat.reduceBEq, Nat.reduceAdd, Nat.reduceLeDiff, reduceIte, reduceCtorEq]
        refine ⟨?_, ?_⟩
        · refine XApp.own hown2 rfl (by simp) (by simp; omega) (by decide) (fun v3 σ3 ho3 hbk3 => ?_)
          have hb3 := (hbk3 jd).trans haps2.row
          have hr3 := (hbk3 jr).trans haps2.res
          simp -implicitDefEqProofs only [hb3, hr3, hixl, ho3.cells, ho3.cell, hlen3, htk, hdr, go_sem, Nat.reduceEqDiff, Nat.reduceBEq, Nat.reduceAdd, Nat.reduceLeDiff, reduceIte, reduceCtorEq]
          rw [List.append_assoc]
          refine hend v3 σ3 _ _ ?_ ?_ ho3 hr3
          · simp -implicitDefEqProofs only [go_sem, Nat.reduceEqDiff, Nat.reduceBEq, Nat.reduceAdd, Nat.reduceLeDiff, reduceIte, reduceCtorEq]
          · simp -implicitDefEqProofs only [go_sem, Nat.reduceEqDiff, Nat.reduceBEq, Nat.reduceAdd, Nat.reduceLeDiff, reduceIte, reduceCtorEq]
        · refine XApp.own hown2 rfl (by simp) (by simp; omega) (by decide) (fun v3 σ3 ho3 hbk3 => ?_)
          have hb3 := (hbk3 jd).trans haps2.row
          have hr3 := (hbk3 jr).trans haps2.res
          simp -implicitDefEqProofs only [hb3, hr3, hixl, ho3.cells, ho3.cell, hlen3, htk, hdr, go_sem, Nat.reduceEqDiff, Nat.reduceBEq, Nat.reduceAdd, Nat.reduceLeDiff, reduceIte, reduceCtorEq]
          rw [List.append_assoc]
          refine hend v3 σ3 _ _ ?_ ?_ ho3 hr3
          · simp -implicitDefEqProofs only [go_sem, Nat.reduceEqDiff, Nat.reduceBEq, Nat.reduceAdd, Nat.reduceLeDiff, reduceIte, reduceCtorEq]
          · simp -implicitDefEqProofs only [go_sem, Nat.reduceEqDiff, Nat.reduceBEq, Nat.reduceAdd, Nat.reduceLeDiff, reduceIte, reduceCtorEq]
      · rintro F' L' σ' ⟨h1, h2, cv', h3, h4⟩
        rw [h1, h2]
        (repeat' (first|refine Run.ct rfl ?_|((first|refine Run.reg mixed ?_|refine Run.condM ?_|(refine xo_gs rfl (fun h => ?_) (fun h => ?_) <;> try (cases h; done))) <;> try simp -implicitDefEqProofs only [hw1, go_sem, Nat.reduceEqDiff, Nat.reduceBEq, Nat.reduceAdd, Nat.reduceLeDiff, reduceIte, reduceCtorEq])|(refine ⟨fun h => ?_, fun h => ?_⟩ <;> first|(cases h; done)|try simp only [h])|fail))
        exact ih (p + 1, us ++ [(⟨cn, ts⟩ : Con)], cv', σ') ⟨by simp only; omega, by simp [hlu], hsn, h3, h4⟩ (by simp only; omega)
  · rw [List.take_of_length_le (by omega)] at hok
    (repeat' (first|refine Run.ct rfl ?_|((first|refine Run.reg mixed ?_|refine Run.condM ?_|refine Run.retR g_scope_resolver_declare (Heap.le_refl _) ?_|(refine xo_gs rfl (fun h => ?_) (fun h => ?_) <;> try (cases h; done))) <;> try simp -implicitDefEqProofs only [lt_f hlt, go_sem, Nat.reduceEqDiff, Nat.reduceBEq, Nat.reduceAdd, Nat.reduceLeDiff, reduceIte, reduceCtorEq])|(refine ⟨fun h => ?_, fun h => ?_⟩ <;> first|(cases h; done)|try simp only [h])|fail))
    exact hfin us cv _ hok hown.slv haps
end Go.Ab

namespace Go.Ab
open Go.Proofs
def RHead (σ0 : Heap) (jr : Nat) (dl : List Dat) (nm : Str) (vs : List Str) (cs : List CE) (x1 x2 x3 : AV) (F' : Fm) (L' : Lm) (σ' : Heap) : Prop :=
  ∃ jd cells, keep [0, 3] F' = put 0 (.gp jr 0) (put 3 (.lp 3 0) U) ∧ keepL [0, 3] L' = putL 3 [.d (.str nm), .d (.sl (vs.map sRow)), .d (.sl (cs.map CE.enc))] E ∧ APS σ0 jr dl nm vs.length .nils x1 x2 x3 jd cells σ'
theorem APS.st {σ0 τ : Heap} {jr : Nat} {dl : List Dat} {nm : Str} {k : Int} {cv x1 x2 x3 : AV} {jd : Nat} {cs : List AV} (h : APS σ0 jr dl nm k cv x1 x2 x3 jd cs τ) (hjr : σ0.blk jr = none) (y1 y2 y3 : AV) :
    APS σ0 jr dl nm k cv y1 y2 y3 jd cs (τ.setBlk jr [.ms jd (dl.length + 1) 3 eD, y1, y2, y3]) :=
  ⟨by rw [setBlk_get, if_pos rfl], h.nb, h.ne, by rw [setBlk_get, if_neg h.ne]; exact h.row, h.ok, le_set h.le hjr⟩
set_option maxRecDepth 4000 in
set_option maxHeartbeats 8000000 in
theorem declare_ok (σ0 : Heap) (jr : Nat) (dl : List Dat) (hdl : dl.length ≤ 1000) (hnn : ∀ d ∈ dl, 0 ≤ d.vars) (hdt : DtOk dl) (nm : Str) (vs : List Str) (cs : List CE) (hcs : cs.length ≤ 1000) (hsm : ∀ c ∈ cs, smallCE c ∧ c.args.length ≤ 1000)
    (τ : Heap) (dv x1 x2 x3 : AV) (hb : τ.blk jr = some [dv, x1, x2, x3]) (hx : x1.isCell = true ∧ x2.isCell = true ∧ x3.isCell = true) (hv : DlX σ0 jr τ dl dv) (hle : σ0.le τ) (hjr : σ0.blk jr = none) :
    ACalls Try.prog 36 [.gp jr 0, deA ⟨nm, vs, cs⟩] τ (DQ σ0 jr dl (declP (dsOf dl) (usedD dl) ⟨nm, vs, cs⟩)) := by
  refine i_scope_resolver_declare (by simp [deA]) ?_
  rw [argF_2]
  simp only [DE.enc, deA, List.map_cons, List.map_nil]
  have hfi := find_ok dl dv [x1, x2, x3] jr nm τ (by omega) hb hv.dls
  have hrep := repeated_ok vs τ
  have hap := fun K => declare_app σ0 jr dl hdl nm vs cs τ dv x1 x2 x3 hb hx hv hle hjr K
  have hds : (dsOf dl).map (·.1) = dnames dl := dsOf_names dl
  unfold declP
  simp only [hds]
  have hin : (idxP (dnames dl) nm).isSome = (dnames dl).contains nm := idxP_isSome _ _
  cases hc : idxP (dnames dl) nm with
  | some i =>
    rw [hc] at hin hfi
    simp only [Option.isSome_some] at hin
    have hge : decide ((0 : Int) ≤ (i : Int)) = true := by simp
    rw [← hin]
    simp only [Bool.true_or, if_true]
    simp only [idxI] at hfi
    (repeat' (first|refine Run.ct rfl ?_|((first|refine Run.reg mixed ?_|refine Run.condM ?_|refine Run.retR g_scope_resolver_declare (Heap.le_refl _) ?_|refine XCall.det (hfi) ?_|(refine xo_gs rfl (fun h => ?_) (fun h => ?_) <;> try (cases h; done))) <;> try simp -implicitDefEqProofs only [hge, go_sem, Nat.reduceEqDiff, Nat.reduceBEq, Nat.reduceAdd, Nat.reduceLeDiff, reduceIte, reduceCtorEq])|(refine ⟨fun h => ?_, fun h => ?_⟩ <;> first|(cases h; done)|try simp only [h])|fail))
    exact ⟨rfl, by decide, hle⟩
  | none =>
  rw [hc] at hin hfi
  simp only [Option.isSome_none] at hin
  rw [← hin]
  simp only [idxI] at hfi
  have hge : decide ((0 : Int) ≤ -1) = false := by decide
  cases ht : twiceB vs with
  | true =>
    rw [ht] at hrep
    simp only [Bool.false_or, if_true]
    (repeat' (first|refine Run.ct rfl ?_|((first|refine Run.reg mixed ?_|refine Run.condM ?_|refine Run.retR g_scope_resolver_declare (Heap.le_refl _) ?_|refine XCall.det (hfi) ?_|refine XCall.det (hrep) ?_|(refine xo_gs rfl (fun h => ?_) (fun h => ?_) <;> try (cases h; done))) <;> try simp -implicitDefEqProofs only [hge, go_sem, Nat.reduceEqDiff, Nat.reduceBEq, Nat.reduceAdd, Nat.reduceLeDiff, reduceIte, reduceCtorEq])|(refine ⟨fun h => ?_, fun h => ?_⟩ <;> first|(cases h; done)|try simp only [h])|fail))
    exact ⟨rfl, by decide, hle⟩
  | false =>
  rw [ht] at hrep
  simp only [Bool.false_or, Bool.false_eq_true, if_false]
  (repeat' (first|refine Run.ct rfl ?_|((first|refine Run.reg mixed ?_|refine Run.condM ?_|refine XCall.det (hfi) ?_|refine XCall.det (hrep) ?_|(refine xo_gs rfl (fun h => ?_) (fun h => ?_) <;> try (cases h; done))) <;> try simp -implicitDefEqProofs only [hge, go_sem, Nat.reduceEqDiff, Nat.reduceBEq, Nat.reduceAdd, Nat.reduceLeDiff, reduceIte, reduceCtorEq])|(refine ⟨fun h => ?_, fun h => ?_⟩ <;> first|(cases h; done)|try simp only [h])|fail))
  refine Run.regTC mixed (RHead σ0 jr dl nm vs cs x1 x2 x3) (hap _ (fun F' L' σ' jd cells h1 h2 h3 => ⟨jd, cells, h1, h2, h3⟩)) ?_
  rintro F' L' σ' ⟨jd, cells, h1, h2, h3⟩
  rw [h1, h2]
  have hres := h3.res
  have h4 := h3.st hjr (.d (.str nm)) (.d (.sl (vs.map sRow))) (.d (.sl (cs.map CE.enc)))
  have hres4 := h4.res
  have hw : IntKind.i64.wrap (((dl.length + 1 : Nat) : Int) - 1) = (dl.length : Int) := by
    exact wrap_sub1' (by omega)
  (repeat' (first|refine Run.ct rfl ?_|((first|refine Run.reg mixed ?_|refine Run.condM ?_|(refine xo_gs rfl (fun h => ?_) (fun h => ?_) <;> try (cases h; done))) <;> try simp -implicitDefEqProofs only [hres, hres4, hw, List.length_map, go_sem, Nat.reduceEqDiff, Nat.reduceBEq, Nat.reduceAdd, Nat.reduceLeDiff, reduceIte, reduceCtorEq])|(refine ⟨fun h => ?_, fun h => ?_⟩ <;> first|(cases h; done)|try simp only [h])|fail))
  exact declare_L1 σ0 jr dl hdl hnn hdt nm vs cs hcs hsm _ jd cells hjr h4
end Go.Ab

namespace Go.Ab
open Go.Proofs
theorem RowsOk.enc : ∀ {dl : List Dat} {cs : List AV}, RowsOk cs dl → ∃ ds, dvs cs = some ds ∧ chunk 3 dl.length ds = dl.map Dat.enc
  | [], cs, h => by
    have : cs = [] := List.eq_nil_of_length_eq_zero (by simpa using h.1)
    subst this
    exact ⟨[], rfl, rfl⟩
  | d :: dl, cs, h => by
    obtain ⟨cv, h1, h2⟩ := h.2 0 d rfl
    simp only [Nat.zero_mul, List.drop_zero] at h1
    have hcs : cs = .d (.str d.name) :: .d (.int .i64 d.vars) :: cv :: cs.drop 3 := by
      conv => lhs; rw [← List.take_append_drop 3 cs, h1]
      rfl
    have ht : RowsOk (cs.drop 3) dl := by
      refine ⟨by rw [List.length_drop, h.1]; simp; omega, fun i x hx => ?_⟩
      obtain ⟨cv', h3, h4⟩ := h.2 (i + 1) x hx
      refine ⟨cv', ?_, h4⟩
      rw [List.drop_drop, ← h3]
      congr 2
      omega
    obtain ⟨ds, h5, h6⟩ := RowsOk.enc ht
    refine ⟨.str d.name :: .int .i64 d.vars :: .sl (d.cons.map Con.enc) :: ds, ?_, ?_⟩
    · rw [hcs]
      have hcv := h2.dv
      have e1 : (AV.d (.str d.name)).dv = some (.str d.name) := rfl
      have e2 : (AV.d (.int .i64 d.vars)).dv = some (.int .i64 d.vars) := rfl
      simp [dvs, hcv, h5, e1, e2]
    · simp [chunk, h6, Dat.enc]
def dgA (d : Dg) : AV := .agg [.d (.int .i64 d.1), .d (.int .i64 d.2.1), .d (.int .i64 d.2.2)]
def datRA : Except Dg (List Dat) → AV
  | .ok dt => .tup [dsA dt, dgA (0, 0, 0)]
  | .error d => .tup [dsA [], dgA d]
theorem declP_facts {ds : List (Str × Nat)} {used : List Str} {d : DE} {x : Dat} (h : declP ds used d = .ok x) : x.name = d.name ∧ x.vars = d.vars.length ∧ x.cons.map (·.name) = d.cons.map (·.name) := by
  unfold declP at h
  split at h
  · cases h
  · cases hc : consP (ds ++ [(d.name, d.vars.length)]) d.vars used d.cons with
    | error e => rw [hc] at h; cases h
    | ok us =>
      rw [hc] at h
      cases h
      exact ⟨rfl, rfl, (consP_app _ _ [] hc).2⟩
theorem datGo_app (m : List DE) : ∀ {l done : List DE} {xs : List Dat}, datGo done l = .ok xs → datGo done (l ++ m) = (datGo (done ++ l) m).map (xs ++ ·)
  | [], done, xs, h => by
    cases h
    simp only [List.nil_append, List.append_nil]
    cases datGo done m <;> rfl
  | d :: l, done, xs, h => by
    rw [datGo] at h
    rw [List.cons_append, datGo]
    cases hd : declP (headsP done) (usedP done) d with
    | error e => rw [hd] at h; cases h
    | ok x =>
      rw [hd] at h
      simp only at h ⊢
      cases hl : datGo (done ++ [d]) l with
      | error e => rw [hl] at h; cases h
      | ok ys =>
        rw [hl] at h
        cases h
        rw [datGo_app m hl, List.append_assoc]
        simp only [List.cons_append, List.nil_append]
        cases datGo (done ++ d :: l) m <;> rfl
theorem datGo_facts : ∀ {l done : List DE} {xs : List Dat}, datGo done l = .ok xs → dsOf xs = headsP l ∧ usedD xs = usedP l ∧ xs.length = l.length ∧ (∀ x ∈ xs, 0 ≤ x.vars) ∧ (∀ n, (∀ d ∈ l, d.cons.length ≤ n) → ∀ x ∈ xs, x.cons.length ≤ n)
  | [], done, xs, h => by cases h; simp [dsOf, headsP, usedD, usedP]
  | d :: l, done, xs, h => by
    rw [datGo] at h
    cases hd : declP (headsP done) (usedP done) d with
    | error e => rw [hd] at h; cases h
    | ok x =>
      rw [hd] at h
      simp only at h
      cases hl : datGo (done ++ [d]) l with
      | error e => rw [hl] at h; cases h
      | ok ys =>
        rw [hl] at h
        cases h
        obtain ⟨f1, f2, f3⟩ := declP_facts hd
        obtain ⟨g1, g2, g3, g4, g5⟩ := datGo_facts hl
        have f4 : x.cons.length = d.cons.length := by simpa using congrArg List.length f3
        refine ⟨?_, ?_, by simp [g3], ?_, ?_⟩
        · simp [dsOf, headsP, f1, f2] at g1 ⊢; exact g1
        · simp only [usedD, usedP, List.flatMap_cons, f3] at g2 ⊢; rw [g2]
        · intro y hy
          rcases List.mem_cons.1 hy with rfl | hy
          · rw [f2]; omega
          · exact g4 y hy
        · intro n hn y hy
          rcases List.mem_cons.1 hy with rfl | hy
          · rw [f4]; exact hn d (List.mem_cons_self ..)
          · exact g5 n (fun z hz => hn z (List.mem_cons_of_mem _ hz)) y hy
end Go.Ab
