/- Shared rows become data; a rule for loops. Conditions: none. -/
import Derived.Test.YtdbpmhfepfpldaaDoorXAb12
set_option linter.unusedSimpArgs false
set_option linter.unusedVariables false
namespace Go.Ab
open Go.RowKit

variable {P : Program} {base N : Nat} {g g' : Gh} {Pr : Nat → Prop} {σ σ' : Heap} {w0 w w' : World} {lam : Nat → Option Nat} {F F' : Fm} {L L' : Lm} {a : Act}

theorem VR.data {c : AV} {v : Value} {x : DV} (h : VR g c v) (hd : c.dv = some x) : RD g.im x v := by
  cases h <;> simp only [AV.dv, Option.some.injEq] at hd <;> try (cases hd; done)
  · subst hd; assumption
  · subst hd; exact .nil (Nat.zero_le _) (fun _ => rfl)
  · subst hd; assumption
  · subst hd; assumption
  · subst hd; exact .nilp

mutual
/-- The row i, n long, has become data. -/
def frz (i n : Nat) (rows : List (List DV)) : AV → AV
  | .ms j m s e => if j = i ∧ m = n then .d (.sl rows) else .ms j m s e
  | .agg cs => .agg (frzs i n rows cs)
  | .tup cs => .tup (frzs i n rows cs)
  | v => v
def frzs (i n : Nat) (rows : List (List DV)) : List AV → List AV
  | [] => []
  | v :: l => frz i n rows v :: frzs i n rows l
end

theorem frzs_len (i n : Nat) (rows : List (List DV)) : ∀ l : List AV, (frzs i n rows l).length = l.length
  | [] => rfl
  | v :: l => by simp [frzs, frzs_len i n rows l]
theorem frzs_get (i n : Nat) (rows : List (List DV)) : ∀ (l : List AV) (k : Nat), (frzs i n rows l)[k]? = (l[k]?).map (frz i n rows)
  | [], k => by simp [frzs]
  | v :: l, 0 => by simp [frzs]
  | v :: l, k + 1 => by simp [frzs, frzs_get i n rows l k]
theorem frz_cell {i n : Nat} {rows : List (List DV)} {v : AV} (h : v.isCell = true) : (frz i n rows v).isCell = true := by
  cases v <;> first | exact h | (simp only [frz]; split <;> rfl) | (simp [AV.isCell] at h)
theorem frzs_ok {i n : Nat} {rows : List (List DV)} : ∀ {l : List AV}, cellsOk l = true → cellsOk (frzs i n rows l) = true
  | [], _ => rfl
  | v :: l, h => by
    simp only [cellsOk, List.all_cons, Bool.and_eq_true] at h
    simp only [frzs, cellsOk, List.all_cons, Bool.and_eq_true]
    exact ⟨frz_cell h.1, frzs_ok (l := l) h.2⟩

theorem VR.frz {i n b : Nat} {rows : List (List DV)} (hg : g.le g') (hm : g.mu i = some b) (hrow : ∀ cap, n ≤ cap → cap ≤ maxLen → RD g'.im (.sl rows) (.slice (some ⟨b, 0, none⟩) n cap)) {x : AV} {v : Value} (h : VR g x v) : VR g' (frz i n rows x) v := by
  induction h with
  | d h => simpa [Ab.frz] using VR.d (h.mono hg.im)
  | nils => simpa [Ab.frz] using VR.nils
  | own h ht hs => simpa [Ab.frz] using VR.own (h.mono hg.im) (hg.tau _ _ ht) hs
  | clip h => simpa [Ab.frz] using VR.clip (h.mono hg.im)
  | mv h hr hn hm ho => simpa [Ab.frz] using VR.mv (hg.mu _ _ h) (hg.rm _ _ hr) hn hm ho
  | bp ht him => simpa [Ab.frz] using VR.bp (hg.tau _ _ ht) (fun j x hx => hg.im _ _ _ (him j x hx))
  | @agg cs vs hl hc _ ih =>
    refine .agg (by rw [frzs_len]; exact hl) (fun c hcm => ?_) (fun k c v hci hvi => ?_)
    · obtain ⟨k, hk, rfl⟩ := List.getElem_of_mem hcm
      have := frzs_get i n rows cs k
      rw [List.getElem?_eq_getElem hk] at this
      cases hcs : cs[k]? with
      | none => rw [hcs] at this; cases this
      | some c' => rw [hcs] at this; simp only [Option.map_some, Option.some.injEq] at this; rw [this]; exact frz_cell (hc c' (List.mem_of_getElem? hcs))
    · rw [frzs_get] at hci
      cases hcs : cs[k]? with
      | none => rw [hcs] at hci; cases hci
      | some c' => rw [hcs] at hci; simp only [Option.map_some, Option.some.injEq] at hci; rw [← hci]; exact ih k c' v hcs hvi
  | gp h => simpa [Ab.frz] using VR.gp (hg.mu _ _ h)
  | ep hi hr => simpa [Ab.frz] using VR.ep (fun j hj => hg.im _ _ _ (hi j hj)) (fun j x hx => (hr j x hx).mono hg.im)
  | nilp => simpa [Ab.frz] using VR.nilp
  | nilf => simpa [Ab.frz] using VR.nilf
  | @ms j m s e b' cap h hr hn hmx =>
    simp only [Ab.frz]
    split
    · rename_i e
      obtain ⟨rfl, rfl⟩ := e
      rw [hm] at h; cases h
      exact .d (hrow cap hn hmx)
    · exact .ms (hg.mu _ _ h) (hg.rm _ _ hr) hn hmx
  | fn hl hl' h h' _ _ => simpa [Ab.frz] using VR.mono hg (VR.fn hl hl' h h')
  | @tup cs vs hl _ ih =>
    refine .tup (by rw [frzs_len]; exact hl) (fun k c v hci hvi => ?_)
    rw [frzs_get] at hci
    cases hcs : cs[k]? with
    | none => rw [hcs] at hci; cases hci
    | some c' => rw [hcs] at hci; simp only [Option.map_some, Option.some.injEq] at hci; rw [← hci]; exact ih k c' v hcs hvi
  | undef => simpa [Ab.frz] using VR.undef

theorem VRs.frzs {i n b : Nat} {rows : List (List DV)} (hg : g.le g') (hm : g.mu i = some b) (hrow : ∀ cap, n ≤ cap → cap ≤ maxLen → RD g'.im (.sl rows) (.slice (some ⟨b, 0, none⟩) n cap)) {xs : List AV} {vs : List Value} (h : VRs g xs vs) : VRs g' (frzs i n rows xs) vs := by
  induction h with
  | nil => exact .nil
  | cons h _ ih => exact .cons (h.frz hg hm hrow) ih

theorem dvs_get : ∀ {cs : List AV} {ds : List DV}, dvs cs = some ds → ds.length = cs.length ∧ ∀ (k : Nat) (c : AV) (x : DV), cs[k]? = some c → ds[k]? = some x → c.dv = some x
  | [], ds, h => by simp only [dvs, Option.some.injEq] at h; subst h; simp
  | c :: cs, ds, h => by
    simp only [dvs, Option.bind_eq_bind, Option.bind_eq_some_iff] at h
    obtain ⟨x, hx, ys, hys, he⟩ := h
    cases he
    obtain ⟨h1, h2⟩ := dvs_get hys
    refine ⟨by simp [h1], fun k c' x' hc hx' => ?_⟩
    cases k with
    | zero => simp at hc hx'; subst hc; subst hx'; exact hx
    | succ k => exact h2 k c' x' (by simpa using hc) (by simpa using hx')

theorem chunk_len (size : Nat) : ∀ (n : Nat) (l : List DV), (chunk size n l).length = n
  | 0, _ => rfl
  | n + 1, l => by simp [chunk, chunk_len size n]
theorem chunk_row (size : Nat) : ∀ (n : Nat) (l : List DV) (i : Nat) (r : List DV), (chunk size n l)[i]? = some r → r = (l.drop (i * size)).take size
  | 0, _, i, r, h => by simp [chunk] at h
  | n + 1, l, 0, r, h => by simp [chunk] at h; simp [h]
  | n + 1, l, i + 1, r, h => by
    have := chunk_row size n (l.drop size) i r (by simpa [chunk] using h)
    rw [this, List.drop_drop]
    congr 2
    rw [Nat.add_mul]; omega

/-- What is known behind a freezing. -/
theorem Rel.freeze (h : Rel base g Pr σ w0 w) {i n size : Nat} {cs : List AV} {ds : List DV} (hi : σ.blk i = some cs) (hd : dvs cs = some ds) (hl : cs.length = n * size) (hn : n ≤ maxLen) (hσ : ∀ j cs', σ'.blk j = some cs' → j ≠ i ∧ ∃ cs0, σ.blk j = some cs0 ∧ (cs' = cs0 ∨ cs' = frzs i n (chunk size n ds) cs0))
    (ht : ∀ t, σ'.tok t = true → σ.tok t = true) (hgt : σ'.gt = σ.gt) (hbt : σ'.bt = σ.bt) :
    ∃ g' b, g.le g' ∧ g.mu i = some b ∧ (∀ cap, n ≤ cap → cap ≤ maxLen → RD g'.im (.sl (chunk size n ds)) (.slice (some ⟨b, 0, none⟩) n cap)) ∧ Rel base g' Pr σ' w0 w := by
  obtain ⟨b, hb, ho⟩ := h.shr i cs hi
  obtain ⟨vs0, ty, hv, hl0, hrt0, hr0⟩ := ho.row
  obtain ⟨vs, hvs⟩ : ∃ vs : Array Value, vs = (vs0.toList.take cs.length).toArray := ⟨_, rfl⟩
  have hr : VRs g cs vs.toList := by rw [hvs]; simpa using hr0
  have hvl : vs.size = cs.length := by simpa using hr.length
  let g2 : Gh := { g with im := fun b' o => if b' = b then vs[o]? else g.im b' o }
  have hle : g.le g2 := ⟨fun b' o v hv' => by
    have : b' ≠ b := fun e => by subst e; rw [ho.im o] at hv'; cases hv'
    show (if b' = b then vs[o]? else g.im b' o) = some v
    rw [if_neg this]; exact hv', fun _ _ h => h, fun _ _ h => h, fun _ _ h => h⟩
  have hcell : ∀ o v, vs[o]? = some v → w.cell? ⟨b, o, none⟩ = some v := fun o v hov => by
    have hov0 : vs0[o]? = some v := by
      rw [hvs] at hov
      simp only [List.getElem?_toArray, List.getElem?_take] at hov
      split at hov
      · simpa using hov
      · cases hov
    unfold World.cell?
    simp [hv, hov0]
  obtain ⟨hdl, hdg⟩ := dvs_get hd
  have hrow : ∀ cap, n ≤ cap → cap ≤ maxLen → RD g2.im (.sl (chunk size n ds)) (.slice (some ⟨b, 0, none⟩) n cap) := by
    intro cap hcap hcm
    rcases Nat.eq_zero_or_pos n with h0 | h0
    · subst h0; exact .nil hcm (fun h => by cases h)
    · have := RD.sl (im := g2.im) (rows := chunk size n ds) (b := b) (off := 0) (cap := cap) (size := size) (f := fun i j => (vs[i * size + j]?).getD Go.undef) (by rw [chunk_len]; exact hcap) hcm
        (fun r hr' => ?_) (fun k j hk hj => ?_) (fun k r j x hk hj => ?_)
      · rw [chunk_len] at this; exact this
      · obtain ⟨k, hk, rfl⟩ := List.getElem_of_mem hr'
        rw [chunk_len] at hk
        have := chunk_row size n ds k _ (by rw [List.getElem?_eq_getElem (by rw [chunk_len]; exact hk)])
        rw [this, List.length_take, List.length_drop]
        have h1 : (k + 1) * size ≤ n * size := Nat.mul_le_mul_right _ hk
        rw [Nat.add_mul] at h1
        omega
      · rw [chunk_len] at hk
        have h1 : (k + 1) * size ≤ n * size := Nat.mul_le_mul_right _ hk
        rw [Nat.add_mul] at h1
        have hlt : k * size + j < vs.size := by omega
        show (if b = b then vs[0 + k * size + j]? else _) = _
        rw [if_pos rfl, Nat.zero_add, Array.getElem?_eq_getElem hlt]; rfl
      · have hkn : k < n := by have := (List.getElem?_eq_some_iff.1 hk).1; rw [chunk_len] at this; exact this
        have := chunk_row size n ds k r hk
        subst this
        rw [List.getElem?_take] at hj
        split at hj
        · rename_i hjs
          rw [List.getElem?_drop] at hj
          have hlt : k * size + j < cs.length := by rw [← hdl]; exact (List.getElem?_eq_some_iff.1 hj).1
          have hc := hdg (k * size + j) cs[k * size + j] x (by simp [hlt]) hj
          have hvv : vs.toList[k * size + j]? = some (vs[k * size + j]'(by omega)) := by simp
          have hvr := hr.idx (k * size + j) cs[k * size + j] _ (List.getElem?_eq_getElem hlt) hvv
          have := (hvr.data hc).mono hle.im
          rw [Array.getElem?_eq_getElem (by omega)]; exact this
        · cases hj
  refine ⟨g2, b, hle, hb, hrow, ?_⟩
  have hn' : ∀ j, σ'.blk j ≠ none → σ.blk j ≠ none ∧ j ≠ i := fun j hj => by
    cases hc : σ'.blk j with
    | none => exact absurd hc hj
    | some c => obtain ⟨h1, c0, h2, _⟩ := hσ j c hc; exact ⟨by rw [h2]; simp, h1⟩
  have hbi : σ.blk i ≠ none := by rw [hi]; simp
  refine ⟨fun b' o v hv' => ?_, fun j cs' hj => ?_, fun j k b' hj hk => h.inj j k b' (hn' j hj).1 (hn' k hk).1, fun t htk => ?_, fun b' hp => ?_, h.bel, h.bs, h.fin, h.st.mono hle hgt hbt⟩
  · by_cases e : b' = b
    · have hv2 : (if b' = b then vs[o]? else g.im b' o) = some v := hv'
      rw [if_pos e] at hv2
      rw [e]; exact hcell o v hv2
    · have hv2 : (if b' = b then vs[o]? else g.im b' o) = some v := hv'
      rw [if_neg e] at hv2
      exact h.im b' o v hv2
  · obtain ⟨hji, cs0, h0, hcs⟩ := hσ j cs' hj
    obtain ⟨b', hb', ho'⟩ := h.shr j cs0 h0
    obtain ⟨vs', ty', hv', hl', ht', hr'⟩ := ho'.row
    have hne : b' ≠ b := fun e => hji (h.inj j i b (by rw [h0]; simp) hbi (e ▸ hb') hb)
    refine ⟨b', hb', ?_, ⟨vs', ty', hv', ?_, ht', ?_⟩, ho'.low, fun o => ?_, ho'.pr⟩
    · rcases hcs with rfl | rfl
      · exact ho'.ok
      · exact frzs_ok ho'.ok
    · rcases hcs with rfl | rfl
      · exact hl'
      · rw [frzs_len]; exact hl'
    · rcases hcs with rfl | rfl
      · exact hr'.mono hle
      · rw [frzs_len]; exact hr'.frzs hle hb hrow
    · show (if b' = b then vs[o]? else g.im b' o) = none
      rw [if_neg hne]; exact ho'.im o
  · obtain ⟨v, e, size', n', xs, hmt, hown, hrest⟩ := (h.tok t (ht t htk)).row
    refine ⟨v, e, size', n', xs, hmt, hown, fun b' hvb => ?_⟩
    obtain ⟨h1, h2, h3, h4⟩ := hrest b' hvb
    have hne : b' ≠ b := fun e => h3 i hbi (e ▸ hb)
    refine ⟨fun o ho' => ?_, h2, fun j hj => h3 j (hn' j hj).1, fun t' v' e' s' hne' ht' => h4 t' v' e' s' hne' (ht t' ht')⟩
    show (if b' = b then vs[o]? else g.im b' o) = none
    rw [if_neg hne]; exact h1 o ho'
  · have hne : b' ≠ b := fun e => ho.pr (e ▸ hp)
    refine ⟨(h.pr b' hp).1, fun o => ?_⟩
    show (if b' = b then vs[o]? else g.im b' o) = none
    rw [if_neg hne]; exact (h.pr b' hp).2 o

variable {cx : Cx} {K : AV → Heap → Prop} {k : List CI}

/-- A shared row of data is given up: it is data from here on. -/
theorem Run.freeze {i n size : Nat} {cs : List AV} {ds : List DV} (hi : σ.blk i = some cs) (hd : dvs cs = some ds) (hl : cs.length = n * size) (hn : n ≤ maxLen)
    (hF : ∀ s, F' s = F s ∨ F' s = frz i n (chunk size n ds) (F s)) (hL : ∀ k cs', L' k = some cs' → ∃ cs0, L k = some cs0 ∧ (cs' = cs0 ∨ cs' = frzs i n (chunk size n ds) cs0))
    (hσ : ∀ j cs', σ'.blk j = some cs' → j ≠ i ∧ ∃ cs0, σ.blk j = some cs0 ∧ (cs' = cs0 ∨ cs' = frzs i n (chunk size n ds) cs0)) (ht : ∀ t, σ'.tok t = true → σ.tok t = true)
    (h : Run cx K k F' L' σ') (hgt : σ'.gt = σ.gt := by rfl) (hbt : σ'.bt = σ.bt := by rfl) : Run cx K k F L σ := by
  intro items base g lam Pr a w0 w b cs0 hi0 hf hb hk
  obtain ⟨g', bb, hle, hmu, hrow, hrel⟩ := hf.rel.freeze hi hd hl hn hσ ht hgt hbt
  have hf' : FRel base g' lam Pr cx.N F' L' σ' a w0 w := by
    refine ⟨fun s => ?_, hf.sz, hf.df, fun k' cs' hk' => ?_, hf.inj, hf.npr, hrel⟩
    · have hs := hf.tm s
      have hsm : SV g' lam (F s) (a.tmps.getD s Go.undef) := by
        generalize F s = fs at hs
        cases fs <;> first | exact VR.mono hle hs | exact hs
      rcases hF s with e | e
      · rw [e]; exact hsm
      · rw [e]
        generalize F s = fs at hs hsm
        cases fs <;> first | exact hsm | exact SV.of_vr (VR.frz hle hmu hrow hs)
    · obtain ⟨c0, h0, hc⟩ := hL k' cs' hk'
      obtain ⟨hok, b', vs, ty, h1, h2, h3, h4⟩ := hf.loc k' c0 h0
      refine ⟨?_, b', vs, ty, h1, h2, h3, ?_⟩
      · rcases hc with rfl | rfl
        · exact hok
        · exact frzs_ok hok
      · rcases hc with rfl | rfl
        · exact h4.mono hle
        · exact h4.frzs hle hmu hrow
  obtain ⟨v, w', fr, hs, hfn, hlv, av, g2, σ2, h1, h2, h3, h4, h5⟩ := h items base g' lam Pr a w0 w b cs0 hi0 hf' hb hk
  exact ⟨v, w', fr, hs, hfn, hlv, av, g2, σ2, h1, h2, Gh.le_trans hle h3, h4, h5⟩

theorem XT_all {K K' : Kont} (hk : ∀ F L σ, K F L σ → K' F L σ) : ∀ (t : QT) (b : Bool) (F : Fm) (L : Lm) (σ : Heap), XT P K b t F L σ → XT P K' b t F L σ
  | .done, false, F, L, σ, h => hk _ _ _ h
  | .done, true, F, L, σ, h => trivial
  | .one q t, b, F, L, σ, h => by
    have h : XQ P q (XT P K false t) F L σ := by cases b <;> exact h
    have : XQ P q (XT P K' false t) F L σ := XQ_all (fun F L σ h => XT_all hk t false F L σ h) h
    cases b <;> exact this
  | .alt q t r, b, F, L, σ, h => by
    have h : XQ P q (XT P K false t) F L σ ∧ XT P K true r F L σ := by cases b <;> exact h
    have : XQ P q (XT P K' false t) F L σ ∧ XT P K' true r F L σ := ⟨XQ_all (fun F L σ h => XT_all hk t false F L σ h) h.1, XT_all hk r true F L σ h.2⟩
    cases b <;> exact this

/-- What holds where the ways through a region meet. -/
theorem Run.regTC {t : QT} {live : List Nat} (hm : cx.P.follows .mixedOrders = true) (R : Kont) (h1 : XT cx.P R false t F L σ) (h2 : ∀ F L σ, R F L σ → Run cx K k (keep live F) (keepL live L) σ) : Run cx K (.code (.regT t live) :: k) F L σ :=
  Run.regT hm (XT_all (fun F L σ h => h2 F L σ h) t false F L σ h1)
theorem Run.regC {ops : List Q} {live : List Nat} (hm : cx.P.follows .mixedOrders = true) (R : Kont) (h1 : XOps cx.P R ops F L σ) (h2 : ∀ F L σ, R F L σ → Run cx K k (keep live F) (keepL live L) σ) : Run cx K (.code (.reg ops live) :: k) F L σ :=
  Run.reg hm (XOps_all ops (fun F L σ h => h2 F L σ h) h1)

theorem Rel.weakV (h : Rel base g Pr σ w0 w) (hσ : ∀ j cs', σ'.blk j = some cs' → ∃ cs, σ.blk j = some cs ∧ cellsOk cs' = true ∧ cs'.length = cs.length ∧ ∀ vs, VRs g cs vs → VRs g cs' vs) (ht : ∀ t, σ'.tok t = true → σ.tok t = true) (hgt : σ'.gt = σ.gt) (hbt : σ'.bt = σ.bt) : Rel base g Pr σ' w0 w := by
  have hn : ∀ j, σ'.blk j ≠ none → σ.blk j ≠ none := fun j hj => by
    cases hc : σ'.blk j with
    | none => exact absurd hc hj
    | some c => obtain ⟨c0, h2, _⟩ := hσ j c hc; rw [h2]; simp
  refine ⟨h.im, fun j cs' hj => ?_, fun j k b hj hk => h.inj j k b (hn j hj) (hn k hk), fun t htk => ?_, h.pr, h.bel, h.bs, h.fin, ⟨fun b vs hv => h.st.1 b vs (by rw [← hgt]; exact hv), fun i x hx => h.st.2 i x (by rw [← hbt]; exact hx)⟩⟩
  · obtain ⟨cs, hc, hok, hln, hv⟩ := hσ j cs' hj
    obtain ⟨b, hb, ho⟩ := h.shr j cs hc
    obtain ⟨vs, ty, h1, h2, h3, h4⟩ := ho.row
    exact ⟨b, hb, hok, ⟨vs, ty, h1, by rw [hln]; exact h2, h3, by rw [hln]; exact hv _ h4⟩, ho.low, ho.im, ho.pr⟩
  · obtain ⟨v, e, size, n, xs, hm, hown, hrest⟩ := (h.tok t (ht t htk)).row
    refine ⟨v, e, size, n, xs, hm, hown, fun b hvb => ?_⟩
    obtain ⟨h1, h2, h3, h4⟩ := hrest b hvb
    exact ⟨h1, h2, fun j hj => h3 j (hn j hj), fun t' v' e' s' hne ht' => h4 t' v' e' s' hne (ht t' ht')⟩

/-- The cells of shared blocks, with less known of them. -/
theorem Run.weakV (hσ : ∀ j cs', σ'.blk j = some cs' → ∃ cs, σ.blk j = some cs ∧ (cs' = cs ∨ cs' = AV.plains cs)) (ht : ∀ t, σ'.tok t = true → σ.tok t = true) (h : Run cx K k F L σ') (hgt : σ'.gt = σ.gt := by rfl) (hbt : σ'.bt = σ.bt := by rfl) : Run cx K k F L σ := by
  intro items base g lam Pr a w0 w b cs0 hi0 hf hb hk
  refine h items base g lam Pr a w0 w b cs0 hi0 ⟨hf.tm, hf.sz, hf.df, hf.loc, hf.inj, hf.npr, hf.rel.weakV (fun j cs' hj => ?_) ht hgt hbt⟩ hb hk
  obtain ⟨cs, hc, hp⟩ := hσ j cs' hj
  obtain ⟨_, _, ho⟩ := hf.rel.shr j cs hc
  refine ⟨cs, hc, ?_, (by rcases hp with rfl | rfl <;> simp [plains_len]), fun vs hv => ?_⟩
  · rcases hp with rfl | rfl
    · exact ho.ok
    · have := ho.ok
      simp only [cellsOk, List.all_eq_true] at this ⊢
      intro v hv
      obtain ⟨i, hi, rfl⟩ := List.getElem_of_mem hv
      have h1 := plains_get cs i
      rw [List.getElem?_eq_getElem hi] at h1
      cases hcs : cs[i]? with
      | none => rw [hcs] at h1; cases h1
      | some c' => rw [hcs] at h1; simp only [Option.map_some, Option.some.injEq] at h1; rw [h1]; exact plain_cell (this c' (List.mem_of_getElem? hcs))
  · rcases hp with rfl | rfl
    · exact hv
    · exact hv.plain

/-- A loop: states x, what holds of them, a measure. -/
theorem Run.loopI {α : Type} {c : C} (fr : α → Fm) (lo : α → Lm) (hp : α → Heap) (inv : α → Prop) (m : α → Nat)
    (step : ∀ x, inv x → (∀ y, inv y → m y < m x → Run cx K (.again c :: k) (fr y) (lo y) (hp y)) → Run cx K (.code c :: .again c :: k) (fr x) (lo x) (hp x)) (x : α) (hx : inv x) :
    Run cx K (.again c :: k) (fr x) (lo x) (hp x) := by
  have : ∀ (n : Nat) (x : α), m x ≤ n → inv x → Run cx K (.again c :: k) (fr x) (lo x) (hp x) := by
    intro n
    induction n with
    | zero => intro x hn hx; exact Run.again (step x hx (fun y _ hy => by omega))
    | succ n ih => intro x hn hx; exact Run.again (step x hx (fun y hy hlt => ih y (by omega) hy))
  exact this _ x (Nat.le_refl _) hx

end Go.Ab
