/- Scope: constructors among the resolver's rows; owned rows in other heaps. Scope: a declaration appended. Scope: a declaration resolved. Conditions: none. -/
import Derived.Test.YtlckhmkeihbhmaaXVg
set_option linter.unusedSimpArgs false
namespace Go.Ab
open Go.Proofs
theorem OwnS.up {σ τ τ' : Heap} {e s : Nat} {rows : List (List DV)} {v : AV} (h : OwnS σ e s rows v τ) (hl : τ.le τ') : OwnS σ e s rows v τ' := by
  obtain ⟨σ1, ha, hle⟩ := h.app
  refine ⟨?_, Heap.le_trans h.le hl, h.plain, h.len, h.cell, h.noLp, h.lpOf, h.dv, h.cells⟩
  unfold appA at ha ⊢
  split at ha
  · cases ha
    exact ⟨τ', rfl, Heap.le_trans hle hl⟩
  · rename_i t e' s' rows'
    split at ha
    · rename_i hc
      cases ha
      refine ⟨τ'.delTok t, if_pos ⟨hc.1, hc.2.1, hl.tok t hc.2.2⟩, ?_⟩
      refine ⟨fun i cs hi => hl.blk i cs (hle.blk i cs hi), fun t' ht' => ?_, hle.gt.trans hl.gt, fun i x hx => hl.bt i x (hle.bt i x hx)⟩
      have h1 := hle.tok t' ht'
      by_cases he : t' = t
      · subst he; simp [Heap.delTok] at h1
      · simp only [Heap.delTok, if_neg he] at h1 ⊢
        exact hl.tok t' h1
    · cases ha
  · cases ha
theorem OwnS.set {σ τ : Heap} {e s : Nat} {rows : List (List DV)} {v : AV} (h : OwnS σ e s rows v τ) {j : Nat} (hj : σ.blk j = none) (cs : List AV) : OwnS σ e s rows v (τ.setBlk j cs) := by
  obtain ⟨σ1, ha, hle⟩ := h.app
  refine ⟨?_, le_set h.le hj, h.plain, h.len, h.cell, h.noLp, h.lpOf, h.dv, h.cells⟩
  unfold appA at ha ⊢
  split at ha
  · cases ha
    exact ⟨_, rfl, le_set hle hj⟩
  · rename_i t e' s' rows'
    split at ha
    · rename_i hc
      cases ha
      exact ⟨(τ.setBlk j cs).delTok t, if_pos hc, le_set hle hj⟩
    · cases ha
  · cases ha
theorem OwnS.slv {σ τ : Heap} {e s : Nat} {rows : List (List DV)} {v : AV} (h : OwnS σ e s rows v τ) : SlV v rows := by
  obtain ⟨σ1, ha, hle⟩ := h.app
  unfold appA at ha
  split at ha
  · cases ha; exact .inr (.inr ⟨rfl, rfl⟩)
  · split at ha
    · cases ha; exact .inr (.inl ⟨_, _, _, rfl⟩)
    · cases ha
  · cases ha
theorem Constructor_ms_ok (dl : List Dat) (hdt : DtOk dl) (hl : dl.length ≤ 1000000) (jd e : Nat) (cells : List AV) (s : Str) (σ : Heap) (hb : σ.blk jd = some cells) (hrows : RowsOk cells dl) :
    ACalls Try.prog 42 [.ms jd dl.length 3 e, .d (.str s)] σ (fun v σ' => v = ctrA (ctrP dl s) ∧ σ' = σ) := by
  refine i_scope_Constructor (by simp) ?_
  rw [argF_2]
  (repeat' (first|refine Run.ct rfl ?_|((first|refine Run.reg mixed ?_|refine Run.condM ?_|(refine xo_gs rfl (fun h => ?_) (fun h => ?_) <;> try (cases h; done))) <;> try simp -implicitDefEqProofs only [List.length_map, go_sem, Nat.reduceEqDiff, Nat.reduceBEq, Nat.reduceAdd, Nat.reduceLeDiff, reduceIte, reduceCtorEq])|(refine ⟨fun h => ?_, fun h => ?_⟩ <;> first|(cases h; done)|try simp only [h])|fail))
  refine Run.loopA ?_
  refine Run.loopI ((fun (a0 : AV) (a1 : AV) (a10 : AV) => fun (i : Nat) => put 0 a0 (put 1 a1 (put 10 a10 (put 11 (.d (.int .i64 i)) U)))) _ _ _) (fun _ => E) (fun _ => σ) (fun i => i ≤ dl.length ∧ ∀ d ∈ dl.take i, conAt d.cons s = none) (fun i => dl.length - i) ?_ 0 ⟨by simp, by simp⟩
  rintro i ⟨hi, hno⟩ ih
  by_cases hlt : i < dl.length
  · obtain ⟨d, hd⟩ := ex_at hlt
    obtain ⟨cv, _, hsl, _, _, g2, _⟩ := hrows.at hd
    have hix : ((i : Int) < (dl.length : Int)) = True := by simp; omega
    have hw1 : IntKind.i64.wrap ((i : Int) + 1) = ((i + 1 : Nat) : Int) := by rw [wrap_pos (by omega) (by omega)]; omega
    have hdl := hdt d (List.mem_of_getElem? hd)
    have hat := fun k => ctrP_at (k := k) hno hd
    rw [← conAt_find] at hat
    have hnext := fun (h : conAt d.cons s = none) => take_no (p := fun d : Dat => (conAt d.cons s).isSome) (i := i) (fun y hy => by simp [hno y hy]) hd (by rw [h]; rfl)
    obtain ⟨dn, dv, cs⟩ := d
    simp only at *
    have hlen := hsl.len
    rw [List.length_map] at hlen
    have hcell := hsl.cell
    (repeat' (first|refine Run.ct rfl ?_|((first|refine Run.reg mixed ?_|refine Run.condM ?_|(refine xo_gs rfl (fun h => ?_) (fun h => ?_) <;> try (cases h; done))) <;> try simp -implicitDefEqProofs only [lt_t hlt, hix, hb, g2, hcell, hlen, go_sem, Nat.reduceEqDiff, Nat.reduceBEq, Nat.reduceAdd, Nat.reduceLeDiff, reduceIte, reduceCtorEq])|(refine ⟨fun h => ?_, fun h => ?_⟩ <;> first|(cases h; done)|try simp only [h])|fail))
    refine Run.loopA ?_
    refine Run.loopI ((fun (a0 : AV) (a1 : AV) (a7 : AV) (a10 : AV) (a11 : AV) (a19 : AV) => fun (k : Nat) => put 0 a0 (put 1 a1 (put 7 a7 (put 10 a10 (put 11 a11 (put 19 a19 (put 20 (.d (.int .i64 k)) U))))))) _ _ _ _ _ _) (fun _ => E) (fun _ => σ) (fun k => k ≤ cs.length ∧ ∀ c ∈ cs.take k, (c.name == s) = false) (fun k => cs.length - k) ?_ 0 ⟨by simp, by simp⟩
    rintro k ⟨hk, hnk⟩ ih2
    by_cases hkl : k < cs.length
    · obtain ⟨c, hc⟩ := ex_at hkl
      have hec := cons_at hc
      have hwk := wrap_succ (show k + 1 ≤ 9000000000000000000 by omega)
      have hne : List.map Con.enc cs ≠ [] := by
        intro h; rw [h] at hec; simp at hec
      cases hs : (c.name == s) with
      | true =>
        have hfin := hat k (findIdx_at (p := fun c : Con => c.name == s) hnk hc hs)
        clear hat hnext ih ih2
        rcases hsl with rfl | ⟨t', e', s', rfl⟩ | ⟨h0, _⟩
        · (repeat' (first|refine Run.ct rfl ?_|((first|refine Run.reg mixed ?_|refine Run.condM ?_|refine Run.retP g_scope_Constructor (Heap.le_refl _) ?_|(refine xo_gs rfl (fun h => ?_) (fun h => ?_) <;> try (cases h; done))) <;> try simp -implicitDefEqProofs only [lt_t hkl, hix, hb, g2, hec, strA_eql, hs, go_sem, Nat.reduceEqDiff, Nat.reduceBEq, Nat.reduceAdd, Nat.reduceLeDiff, reduceIte, reduceCtorEq])|(refine ⟨fun h => ?_, fun h => ?_⟩ <;> first|(cases h; done)|try simp only [h])|fail))
          rw [hfin]; rfl
        · (repeat' (first|refine Run.ct rfl ?_|((first|refine Run.reg mixed ?_|refine Run.condM ?_|refine Run.retP g_scope_Constructor (Heap.le_refl _) ?_|(refine xo_gs rfl (fun h => ?_) (fun h => ?_) <;> try (cases h; done))) <;> try simp -implicitDefEqProofs only [lt_t hkl, hix, hb, g2, hec, strA_eql, hs, go_sem, Nat.reduceEqDiff, Nat.reduceBEq, Nat.reduceAdd, Nat.reduceLeDiff, reduceIte, reduceCtorEq])|(refine ⟨fun h => ?_, fun h => ?_⟩ <;> first|(cases h; done)|try simp only [h])|fail))
          rw [hfin]; rfl
        · exact absurd h0 hne
      | false =>
        have hgo := ih2 (k + 1) ⟨by omega, take_no (p := fun c : Con => c.name == s) hnk hc hs⟩ (by omega)
        clear hat hnext ih ih2
        rcases hsl with rfl | ⟨t', e', s', rfl⟩ | ⟨h0, _⟩
        · (repeat' (first|refine Run.ct rfl ?_|((first|refine Run.reg mixed ?_|refine Run.condM ?_|(refine xo_gs rfl (fun h => ?_) (fun h => ?_) <;> try (cases h; done))) <;> try simp -implicitDefEqProofs only [lt_t hkl, hix, hb, g2, hec, hwk, strA_eql, hs, go_sem, Nat.reduceEqDiff, Nat.reduceBEq, Nat.reduceAdd, Nat.reduceLeDiff, reduceIte, reduceCtorEq])|(refine ⟨fun h => ?_, fun h => ?_⟩ <;> first|(cases h; done)|try simp only [h])|fail))
          exact hgo
        · (repeat' (first|refine Run.ct rfl ?_|((first|refine Run.reg mixed ?_|refine Run.condM ?_|(refine xo_gs rfl (fun h => ?_) (fun h => ?_) <;> try (cases h; done))) <;> try simp -implicitDefEqProofs only [lt_t hkl, hix, hb, g2, hec, hwk, strA_eql, hs, go_sem, Nat.reduceEqDiff, Nat.reduceBEq, Nat.reduceAdd, Nat.reduceLeDiff, reduceIte, reduceCtorEq])|(refine ⟨fun h => ?_, fun h => ?_⟩ <;> first|(cases h; done)|try simp only [h])|fail))
          exact hgo
        · exact absurd h0 hne
    · rw [List.take_of_length_le (by omega)] at hnk
      (repeat' (first|refine Run.ct rfl ?_|((first|refine Run.reg mixed ?_|refine Run.condM ?_|(refine xo_gs rfl (fun h => ?_) (fun h => ?_) <;> try (cases h; done))) <;> try simp -implicitDefEqProofs only [lt_f hkl, hw1, go_sem, Nat.reduceEqDiff, Nat.reduceBEq, Nat.reduceAdd, Nat.reduceLeDiff, reduceIte, reduceCtorEq])|(refine ⟨fun h => ?_, fun h => ?_⟩ <;> first|(cases h; done)|try simp only [h])|fail))
      refine ih (i + 1) ⟨by omega, fun y hy => ?_⟩ (by omega)
      have := hnext (by rw [← conAt_find, findIdx_no (p := fun c : Con => c.name == s) hnk]) y hy
      simpa using this
  · (repeat' (first|refine Run.ct rfl ?_|((first|refine Run.reg mixed ?_|refine Run.condM ?_|refine Run.retP g_scope_Constructor (Heap.le_refl _) ?_|(refine xo_gs rfl (fun h => ?_) (fun h => ?_) <;> try (cases h; done))) <;> try simp -implicitDefEqProofs only [lt_f hlt, go_sem, Nat.reduceEqDiff, Nat.reduceBEq, Nat.reduceAdd, Nat.reduceLeDiff, reduceIte, reduceCtorEq])|(refine ⟨fun h => ?_, fun h => ?_⟩ <;> first|(cases h; done)|try simp only [h])|fail))
    rw [List.take_of_length_le (by omega)] at hno
    rw [ctrP_no hno]; rfl
def usedD (dl : List Dat) : List Str := dl.flatMap fun d => d.cons.map (·.name)
theorem conAt_used (l : List Con) (s : Str) : (conAt l s).isSome = (l.map (·.name)).contains s := by
  rw [← idxP_isSome, ← conAt_find, ← idxP_find, List.findIdx?_map]; rfl
theorem ctrP_used (s : Str) : ∀ dl : List Dat, (ctrP dl s).isSome = (usedD dl).contains s
  | [] => rfl
  | d :: l => by
    have h1 := conAt_used d.cons s
    have h2 := ctrP_used s l
    have h3 : (usedD (d :: l)).contains s = ((d.cons.map (·.name)).contains s || (usedD l).contains s) := by
      simp only [usedD, List.flatMap_cons]
      rw [Bool.eq_iff_iff]; simp only [List.contains_iff_mem, List.mem_append, Bool.or_eq_true]
    rw [h3, ← h1, ← h2, ctrP]
    cases conAt d.cons s <;> simp
end Go.Ab

namespace Go.Ab
open Go.Proofs
theorem XEx.appx {K : Kont} {F : Fm} {L : Lm} {σ σ1 : Heap} {d : Option Nat} {e s i n n2 e2 : Nat} {p : AV} {cs cs2 : List AV} (hb : σ.blk i = some cs2) (h1 : cs2.length = n2 * s) (hn2 : n2 ≠ 0) (hbd : n + n2 ≤ 1000000000)
    (hpa : appmA σ e s p = some (n, cs, σ1)) (hnp : p.noLp = true) (h : ∀ j, σ.blk j = none → K (putO d (.ms j (n + n2) s e) F) L (σ1.setBlk j (cs ++ cs2))) : XEx (.appv e s) [p, .ms i n2 s e2] d K F L σ :=
  ⟨by simp [hnp, noLp_ms], by cases p <;> exact ⟨rfl, cs2, n, cs, σ1, hb, h1, hn2, hbd, hpa, h⟩⟩
abbrev eD : Nat := 107
def DlX (σ0 : Heap) (jr : Nat) (τ : Heap) (dl : List Dat) (v : AV) : Prop := (dl = [] ∧ v = .nils) ∨ (∃ jd cs, v = .ms jd dl.length 3 eD ∧ σ0.blk jd = none ∧ jd ≠ jr ∧ τ.blk jd = some cs ∧ RowsOk cs dl)
theorem DlX.dls {σ0 τ : Heap} {jr : Nat} {dl : List Dat} {v : AV} (h : DlX σ0 jr τ dl v) : DlS τ dl v := by
  rcases h with h | ⟨jd, cs, h1, _, _, h2, h3⟩
  · exact .inl h
  · exact .inr ⟨jd, _, cs, h1, h2, h3⟩
theorem DlX.app {σ0 τ : Heap} {jr : Nat} {dl : List Dat} {v : AV} (h : DlX σ0 jr τ dl v) (hle : σ0.le τ) (hjr : τ.blk jr ≠ none) (row : List AV) :
    ∃ cs, RowsOk cs dl ∧ ∀ i, τ.blk i = none → ∃ σ1, appmA (τ.setBlk i row) eD 3 v = some (dl.length, cs, σ1) ∧ σ0.le σ1 ∧ σ1.blk jr = τ.blk jr := by
  have hi0 : ∀ i, τ.blk i = none → σ0.blk i = none ∧ i ≠ jr := fun i hi => by
    refine ⟨?_, fun e => hjr (e ▸ hi)⟩
    cases hc : σ0.blk i with
    | none => rfl
    | some c => rw [hle.blk i c hc] at hi; cases hi
  rcases h with ⟨rfl, rfl⟩ | ⟨jd, cs, rfl, h0, hne, hb, hr⟩
  · refine ⟨[], ⟨rfl, by simp⟩, fun i hi => ⟨_, rfl, le_set hle (hi0 i hi).1, ?_⟩⟩
    rw [setBlk_get, if_neg (Ne.symm (hi0 i hi).2)]
  · refine ⟨cs, hr, fun i hi => ⟨(τ.setBlk i row).delBlk jd, ?_, ?_, ?_⟩⟩
    · have hji : jd ≠ i := fun e => by rw [e, hi] at hb; cases hb
      simp [appmA, setBlk_get, hji, hb, hr.1]
    · refine ⟨fun q c hq => ?_, hle.tok, hle.gt, hle.bt⟩
      have hq1 : q ≠ jd := fun e => by rw [e, h0] at hq; cases hq
      have hq2 : q ≠ i := fun e => by rw [e, (hi0 i hi).1] at hq; cases hq
      simp only [Heap.delBlk, if_neg hq1, setBlk_get, if_neg hq2]
      exact hle.blk q c hq
    · simp only [Heap.delBlk, if_neg (Ne.symm hne), setBlk_get, if_neg (Ne.symm (hi0 i hi).2)]
structure APS (σ0 : Heap) (jr : Nat) (dl : List Dat) (nm : Str) (k : Int) (cv x1 x2 x3 : AV) (jd : Nat) (cs : List AV) (τ : Heap) : Prop where
  res : τ.blk jr = some [.ms jd (dl.length + 1) 3 eD, x1, x2, x3]
  nb : σ0.blk jd = none
  ne : jd ≠ jr
  row : τ.blk jd = some (cs ++ [.d (.str nm), .d (.int .i64 k), cv])
  ok : RowsOk cs dl
  le : σ0.le τ
theorem RowsOk.snoc {cs : List AV} {dl : List Dat} (h : RowsOk cs dl) (nm : Str) (k : Int) (cv : AV) (cons : List Con) (hcv : SlV cv (cons.map Con.enc)) : RowsOk (cs ++ [.d (.str nm), .d (.int .i64 k), cv]) (dl ++ [⟨nm, k, cons⟩]) := by
  refine ⟨by simp [h.1]; omega, fun i d hd => ?_⟩
  rcases Nat.lt_or_ge i dl.length with hi | hi
  · rw [List.getElem?_append_left hi] at hd
    obtain ⟨cv', h1, h2⟩ := h.2 i d hd
    refine ⟨cv', ?_, h2⟩
    rw [List.drop_append_of_le_length (by rw [h.1]; omega), List.take_append_of_le_length (by rw [List.length_drop, h.1]; omega)]
    exact h1
  · have : i = dl.length := by
      have := (List.getElem?_eq_some_iff.1 hd).1
      simp at this; omega
    subst this
    rw [List.getElem?_append_right (Nat.le_refl _), Nat.sub_self] at hd
    simp only [List.getElem?_cons_zero, Option.some.injEq] at hd
    subst hd
    refine ⟨cv, ?_, hcv⟩
    rw [← h.1, List.drop_left]; rfl
theorem argsP_app (ds : List (Str × Nat)) (vars : List Str) (m : List TE) : ∀ {l : List TE} {us : List Ty}, argsP ds vars l = .ok us → argsP ds vars (l ++ m) = (argsP ds vars m).map (us ++ ·)
  | [], us, h => by
    simp only [argsP, Except.ok.injEq] at h; subst h
    simp only [List.nil_append]
    cases argsP ds vars m <;> rfl
  | t :: l, us, h => by
    rw [argsP] at h
    rw [List.cons_append, argsP]
    cases ht : resP ds vars true t with
    | error e => rw [ht] at h; cases h
    | ok u =>
      rw [ht] at h
      simp only at h ⊢
      cases hl : argsP ds vars l with
      | error e => rw [hl] at h; cases h
      | ok ys =>
        rw [hl] at h
        simp only [Except.map, Except.ok.injEq] at h
        subst h
        rw [argsP_app ds vars m hl]
        cases argsP ds vars m <;> rfl
theorem consP_app (ds : List (Str × Nat)) (vars : List Str) (m : List CE) : ∀ {l : List CE} {used : List Str} {us : List Con}, consP ds vars used l = .ok us → consP ds vars used (l ++ m) = (consP ds vars (used ++ l.map (·.name)) m).map (us ++ ·) ∧ us.map (·.name) = l.map (·.name)
  | [], used, us, h => by
    simp only [consP, Except.ok.injEq] at h; subst h
    simp only [List.nil_append, List.map_nil, List.append_nil, and_true]
    cases consP ds vars used m <;> rfl
  | c :: l, used, us, h => by
    rw [consP] at h
    rw [List.cons_append, consP]
    split at h
    · cases h
    · rename_i hu
      rw [if_neg hu]
      cases ht : argsP ds vars c.args with
      | error e => rw [ht] at h; cases h
      | ok ts =>
        rw [ht] at h
        simp only at h ⊢
        cases hl : consP ds vars (used ++ [c.name]) l with
        | error e => rw [hl] at h; cases h
        | ok ys =>
          rw [hl] at h
          simp only [Except.map, Except.ok.injEq] at h
          subst h
          obtain ⟨h1, h2⟩ := consP_app ds vars m hl
          rw [h1, List.append_assoc]
          refine ⟨?_, by simp [h2]⟩
          simp only [List.map_cons, List.singleton_append]
          cases consP ds vars (used ++ c.name :: l.map (·.name)) m <;> rfl
end Go.Ab

namespace Go.Ab
open Go.Proofs
set_option maxRecDepth 4000 in
set_option maxHeartbeats 4000000 in
theorem declare_app (σ0 : Heap) (jr : Nat) (dl : List Dat) (hdl : dl.length ≤ 1000) (nm : Str) (vs : List Str) (cs : List CE) (τ : Heap) (dv x1 x2 x3 : AV) (hb : τ.blk jr = some [dv, x1, x2, x3]) (hx : x1.isCell = true ∧ x2.isCell = true ∧ x3.isCell = true)
    (hv : DlX σ0 jr τ dl dv) (hle : σ0.le τ) (hjr : σ0.blk jr = none) (K : Kont)
    (hK : ∀ F' L' σ' jd cells, keep [0, 3] F' = put 0 (.gp jr 0) (put 3 (.lp 3 0) U) → keepL [0, 3] L' = putL 3 [.d (.str nm), .d (.sl (vs.map sRow)), .d (.sl (cs.map CE.enc))] E → APS σ0 jr dl nm vs.length .nils x1 x2 x3 jd cells σ' → K F' L' σ') :
    XT Try.prog K false  (.one ⟨some 26, .mv (.t 0), none⟩ (.one ⟨some 27, .mv (.t 0), none⟩ (.one ⟨some 28, .nck (.t 27), none⟩ (.one ⟨some 29, .fld (.t 28) 0, none⟩ (.one ⟨some 31, .fld (.t 3) 0, none⟩ (.one ⟨some 32, .ldl (.t 31) none, none⟩ (.one ⟨some 33, .fld (.t 3) 1, none⟩ (.one ⟨some 34, .ldl (.t 33) none, none⟩ (.one ⟨some 35, .len (.t 34), none⟩ (.one ⟨some 36, .bld [(.d (.str [])), (.d (.int .i64 0)), .nils] [(0, 1, (.t 32)), (1, 1, (.t 35))], none⟩ (.alt ⟨some 30, .ld (.t 29) none, none⟩ (.one ⟨some 37, .bslm 107 3 1 [(.d (.str [])), (.d (.int .i64 0)), .nils] [(0, 3, (.t 36))], none⟩ (.one ⟨some 38, .ex (.appv 107 3) [(.t 30), (.t 37)], none⟩ (.one ⟨some 39, .nck (.t 26), none⟩ (.one ⟨some 40, .fld (.t 39) 0, none⟩ (.one ⟨none, .st (.t 40) (.t 38) 1, none⟩ .done))))) (.alt ⟨some 37, .bslm 107 3 1 [(.d (.str [])), (.d (.int .i64 0)), .nils] [(0, 3, (.t 36))], none⟩ (.one ⟨some 30, .ld (.t 29) none, none⟩ (.one ⟨some 38, .ex (.appv 107 3) [(.t 30), (.t 37)], none⟩ (.one ⟨some 39, .nck (.t 26), none⟩ (.one ⟨some 40, .fld (.t 39) 0, none⟩ (.one ⟨none, .st (.t 40) (.t 38) 1, none⟩ .done))))) .done)))))))))))) (put 0 (.gp jr 0) (put 3 (.lp 3 0) (put 25 (.d (.bool false)) U))) (putL 3 [.d (.str nm), .d (.sl (vs.map sRow)), .d (.sl (cs.map CE.enc))] E) τ := by
  have hcell : dv.isCell = true := by rcases hv with ⟨_, rfl⟩ | ⟨jd, cs, rfl, _⟩ <;> rfl
  have hnl : dv.noLp = true := by rcases hv with ⟨_, rfl⟩ | ⟨jd, cs, rfl, _⟩ <;> rfl
  have hjn : ∀ i, τ.blk i = none → i ≠ jr := fun i hi e => by rw [e, hb] at hi; cases hi
  have hi0 : ∀ i, τ.blk i = none → σ0.blk i = none := fun i hi => by
    cases hc : σ0.blk i with
    | none => rfl
    | some c => rw [hle.blk i c hc] at hi; cases hi
  obtain ⟨cells, hrows, happ⟩ := hv.app hle (by rw [hb]; simp) [.d (.str nm), .d (.int .i64 (vs.length : Int)), .nils]
  -- what both orders end with
  have hend : ∀ (i : Nat) (σ1 : Heap) (j : Nat), τ.blk i = none → appmA (τ.setBlk i [.d (.str nm), .d (.int .i64 (vs.length : Int)), .nils]) eD 3 dv = some (dl.length, cells, σ1) → σ0.le σ1 → σ1.blk jr = τ.blk jr → (τ.setBlk i [.d (.str nm), .d (.int .i64 (vs.length : Int)), .nils]).blk j = none →
      APS σ0 jr dl nm vs.length .nils x1 x2 x3 j cells ((σ1.setBlk j (cells ++ [.d (.str nm), .d (.int .i64 (vs.length : Int)), .nils])).setBlk jr [.ms j (dl.length + 1) 3 eD, x1, x2, x3]) := fun i σ1 j hi _ hl1 hb1 hj => by
    have hji : j ≠ i := fun e => by rw [e, setBlk_get, if_pos rfl] at hj; cases hj
    rw [setBlk_get, if_neg hji] at hj
    have hjr' := hjn j hj
    refine ⟨by rw [setBlk_get, if_pos rfl], hi0 j hj, hjr', by rw [setBlk_get, if_neg hjr', setBlk_get, if_pos rfl], hrows, le_set (le_set hl1 (hi0 j hj)) hjr⟩
  simp -implicitDefEqProofs only [hb, hcell, List.length_map, go_sem, Nat.reduceEqDiff, Nat.reduceBEq, Nat.reduceAdd, Nat.reduceLeDiff, reduceIte, reduceCtorEq]
  refine ⟨XBslM.mk (fun i hi => ?_), XBslM.mk (fun i hi => ?_)⟩
  · obtain ⟨σ1, ha, hl1, hb1⟩ := happ i hi
    have hij := hjn i hi
    have hji : (jr = i) = False := by simp only [eq_iff_iff, iff_false]; exact fun e => hij e.symm
    simp -implicitDefEqProofs only [hb, hcell, hji, go_sem, Nat.reduceEqDiff, Nat.reduceBEq, Nat.reduceAdd, Nat.reduceLeDiff, reduceIte, reduceCtorEq]
    refine XEx.appx (cs2 := [.d (.str nm), .d (.int .i64 (vs.length : Int)), .nils]) (by simp only [setBlk_get, if_true]) rfl (by simp) (by omega) ha hnl (fun j hj => ?_)
    have hjj : (jr = j) = False := by
      simp only [eq_iff_iff, iff_false]
      intro e
      rw [← e, setBlk_get, if_neg (fun e => hij e.symm), hb] at hj; cases hj
    have hfin := hend i σ1 j hi ha hl1 hb1 hj
    rw [hb] at hb1
    simp -implicitDefEqProofs only [hjj, hb1, go_sem, Nat.reduceEqDiff, Nat.reduceBEq, Nat.reduceAdd, Nat.reduceLeDiff, reduceIte, reduceCtorEq]
    exact hK _ _ _ j cells (by simp -implicitDefEqProofs only [go_sem, Nat.reduceEqDiff, Nat.reduceBEq, Nat.reduceAdd, Nat.reduceLeDiff, reduceIte, reduceCtorEq]) (by simp -implicitDefEqProofs only [go_sem, Nat.reduceEqDiff, Nat.reduceBEq, Nat.reduceAdd, Nat.reduceLeDiff, reduceIte, reduceCtorEq]) hfin
  · obtain ⟨σ1, ha, hl1, hb1⟩ := happ i hi
    have hij := hjn i hi
    have hji : (jr = i) = False := by simp only [eq_iff_iff, iff_false]; exact fun e => hij e.symm
    simp -implicitDefEqProofs only [hb, hcell, hji, go_sem, Nat.reduceEqDiff, Nat.reduceBEq, Nat.reduceAdd, Nat.reduceLeDiff, reduceIte, reduceCtorEq]
    refine XEx.appx (cs2 := [.d (.str nm), .d (.int .i64 (vs.length : Int)), .nils]) (by simp only [setBlk_get, if_true]) rfl (by simp) (by omega) ha hnl (fun j hj => ?_)
    have hjj : (jr = j) = False := by
      simp only [eq_iff_iff, iff_false]
      intro e
      rw [← e, setBlk_get, if_neg (fun e => hij e.symm), hb] at hj; cases hj
    have hfin := hend i σ1 j hi ha hl1 hb1 hj
    rw [hb] at hb1
    simp -implicitDefEqProofs only [hjj, hb1, go_sem, Nat.reduceEqDiff, Nat.reduceBEq, Nat.reduceAdd, Nat.reduceLeDiff, reduceIte, reduceCtorEq]
    exact hK _ _ _ j cells (by simp -implicitDefEqProofs only [go_sem, Nat.reduceEqDiff, Nat.reduceBEq, Nat.reduceAdd, Nat.reduceLeDiff, reduceIte, reduceCtorEq]) (by simp -implicitDefEqProofs only [go_sem, Nat.reduceEqDiff, Nat.reduceBEq, Nat.reduceAdd, Nat.reduceLeDiff, reduceIte, reduceCtorEq]) hfin
end Go.Ab
