/- Shared rows become data; a rule for loops. The equations that run compact code, as one set. The types of package api as plain data, and how they lie in abstract values. The programs of package api as plain data, and how they lie in abstract values. Conditions: none. -/
import Derived.Test.YtlckhmkeihbhmaaXLift
set_option linter.unusedSimpArgs false
namespace Go.Ab
open Go.RowKit
variable {P : Program} {base N : Nat} {g g' : Gh} {Pr : Nat → Prop} {σ σ' : Heap} {w0 w w' : World} {lam : Nat → Option Nat} {F F' : Fm} {L L' : Lm} {a : Act}
theorem VR.data {c : AV} {v : Value} {x : DV} (h : VR g c v) (hd : c.dv = some x) : RD g.im x v := by
  cases h <;> simp only [AV.dv, Option.some.injEq] at hd <;> try (cases hd; done)
  · subst hd; assumption
  · subst hd; exact .nil (Nat.zero_le _) (fun _ => rfl)
  · subst hd; assumption
  · subst hd; assumption
  · subst hd; exact .nilp
mutual
def frz (i n : Nat) (rows : List (List DV)) : AV → AV
  | .ms j m s e => if j = i ∧ m = n then .d (.sl rows) else .ms j m s e
  | .agg cs => .agg (frzs i n rows cs)
  | .tup cs => .tup (frzs i n rows cs)
  | v => v
def frzs (i n : Nat) (rows : List (List DV)) : List AV → List AV
  | [] => []
  | v :: l => frz i n rows v :: frzs i n rows l
end
theorem frzs_len (i n : Nat) (rows : List (List DV)) : ∀ l : List AV, (frzs i n rows l).length = l.length
  | [] => rfl
  | v :: l => by simp [frzs, frzs_len i n rows l]
theorem frzs_get (i n : Nat) (rows : List (List DV)) : ∀ (l : List AV) (k : Nat), (frzs i n rows l)[k]? = (l[k]?).map (frz i n rows)
  | [], k => by simp [frzs]
  | v :: l, 0 => by simp [frzs]
  | v :: l, k + 1 => by simp [frzs, frzs_get i n rows l k]
theorem frz_cell {i n : Nat} {rows : List (List DV)} {v : AV} (h : v.isCell = true) : (frz i n rows v).isCell = true := by
  cases v <;> first | exact h | (simp only [frz]; split <;> rfl) | (simp [AV.isCell] at h)
theorem frzs_ok {i n : Nat} {rows : List (List DV)} : ∀ {l : List AV}, cellsOk l = true → cellsOk (frzs i n rows l) = true
  | [], _ => rfl
  | v :: l, h => by
    simp only [cellsOk, List.all_cons, Bool.and_eq_true] at h
    simp only [frzs, cellsOk, List.all_cons, Bool.and_eq_true]
    exact ⟨frz_cell h.1, frzs_ok (l := l) h.2⟩
theorem VR.frz {i n b : Nat} {rows : List (List DV)} (hg : g.le g') (hm : g.mu i = some b) (hrow : ∀ cap, n ≤ cap → cap ≤ maxLen → RD g'.im (.sl rows) (.slice (some ⟨b, 0, none⟩) n cap)) {x : AV} {v : Value} (h : VR g x v) : VR g' (frz i n rows x) v := by
  induction h with
  | d h => simpa [Ab.frz] using VR.d (h.mono hg.im)
  | nils => simpa [Ab.frz] using VR.nils
  | own h ht hs => simpa [Ab.frz] using VR.own (h.mono hg.im) (hg.tau _ _ ht) hs
  | clip h => simpa [Ab.frz] using VR.clip (h.mono hg.im)
  | mv h hr hn hm ho => simpa [Ab.frz] using VR.mv (hg.mu _ _ h) (hg.rm _ _ hr) hn hm ho
  | bp ht him => simpa [Ab.frz] using VR.bp (hg.tau _ _ ht) (fun j x hx => hg.im _ _ _ (him j x hx))
  | @agg cs vs hl hc _ ih =>
    refine .agg (by rw [frzs_len]; exact hl) (fun c hcm => ?_) (fun k c v hci hvi => ?_)
    · obtain ⟨k, hk, rfl⟩ := List.getElem_of_mem hcm
      have := frzs_get i n rows cs k
      rw [List.getElem?_eq_getElem hk] at this
      cases hcs : cs[k]? with
      | none => rw [hcs] at this; cases this
      | some c' => rw [hcs] at this; simp only [Option.map_some, Option.some.injEq] at this; rw [this]; exact frz_cell (hc c' (List.mem_of_getElem? hcs))
    · rw [frzs_get] at hci
      cases hcs : cs[k]? with
      | none => rw [hcs] at hci; cases hci
      | some c' => rw [hcs] at hci; simp only [Option.map_some, Option.some.injEq] at hci; rw [← hci]; exact ih k c' v hcs hvi
  | gp h => simpa [Ab.frz] using VR.gp (hg.mu _ _ h)
  | ep hi hr => simpa [Ab.frz] using VR.ep (fun j hj => hg.im _ _ _ (hi j hj)) (fun j x hx => (hr j x hx).mono hg.im)
  | nilp => simpa [Ab.frz] using VR.nilp
  | nilf => simpa [Ab.frz] using VR.nilf
  | @ms j m s e b' cap h hr hn hmx =>
    simp only [Ab.frz]
    split
    · rename_i e
      obtain ⟨rfl, rfl⟩ := e
      rw [hm] at h; cases h
      exact .d (hrow cap hn hmx)
    · exact .ms (hg.mu _ _ h) (hg.rm _ _ hr) hn hmx
  | fn hl hl' h h' _ _ => simpa [Ab.frz] using VR.mono hg (VR.fn hl hl' h h')
  | @tup cs vs hl _ ih =>
    refine .tup (by rw [frzs_len]; exact hl) (fun k c v hci hvi => ?_)
    rw [frzs_get] at hci
    cases hcs : cs[k]? with
    | none => rw [hcs] at hci; cases hci
    | some c' => rw [hcs] at hci; simp only [Option.map_some, Option.some.injEq] at hci; rw [← hci]; exact ih k c' v hcs hvi
  | undef => simpa [Ab.frz] using VR.undef
theorem VRs.frzs {i n b : Nat} {rows : List (List DV)} (hg : g.le g') (hm : g.mu i = some b) (hrow : ∀ cap, n ≤ cap → cap ≤ maxLen → RD g'.im (.sl rows) (.slice (some ⟨b, 0, none⟩) n cap)) {xs : List AV} {vs : List Value} (h : VRs g xs vs) : VRs g' (frzs i n rows xs) vs := by
  induction h with
  | nil => exact .nil
  | cons h _ ih => exact .cons (h.frz hg hm hrow) ih
theorem dvs_get : ∀ {cs : List AV} {ds : List DV}, dvs cs = some ds → ds.length = cs.length ∧ ∀ (k : Nat) (c : AV) (x : DV), cs[k]? = some c → ds[k]? = some x → c.dv = some x
  | [], ds, h => by simp only [dvs, Option.some.injEq] at h; subst h; simp
  | c :: cs, ds, h => by
    simp only [dvs, Option.bind_eq_bind, Option.bind_eq_some_iff] at h
    obtain ⟨x, hx, ys, hys, he⟩ := h
    cases he
    obtain ⟨h1, h2⟩ := dvs_get hys
    refine ⟨by simp [h1], fun k c' x' hc hx' => ?_⟩
    cases k with
    | zero => simp at hc hx'; subst hc; subst hx'; exact hx
    | succ k => exact h2 k c' x' (by simpa using hc) (by simpa using hx')
theorem chunk_len (size : Nat) : ∀ (n : Nat) (l : List DV), (chunk size n l).length = n
  | 0, _ => rfl
  | n + 1, l => by simp [chunk, chunk_len size n]
theorem chunk_row (size : Nat) : ∀ (n : Nat) (l : List DV) (i : Nat) (r : List DV), (chunk size n l)[i]? = some r → r = (l.drop (i * size)).take size
  | 0, _, i, r, h => by simp [chunk] at h
  | n + 1, l, 0, r, h => by simp [chunk] at h; simp [h]
  | n + 1, l, i + 1, r, h => by
    have := chunk_row size n (l.drop size) i r (by simpa [chunk] using h)
    rw [this, List.drop_drop]
    congr 2
    rw [Nat.add_mul]; omega
theorem Rel.freeze (h : Rel base g Pr σ w0 w) {i n size : Nat} {cs : List AV} {ds : List DV} (hi : σ.blk i = some cs) (hd : dvs cs = some ds) (hl : cs.length = n * size) (hn : n ≤ maxLen) (hσ : ∀ j cs', σ'.blk j = some cs' → j ≠ i ∧ ∃ cs0, σ.blk j = some cs0 ∧ (cs' = cs0 ∨ cs' = frzs i n (chunk size n ds) cs0))
    (ht : ∀ t, σ'.tok t = true → σ.tok t = true) (hgt : σ'.gt = σ.gt) (hbt : σ'.bt = σ.bt) :
    ∃ g' b, g.le g' ∧ g.mu i = some b ∧ (∀ cap, n ≤ cap → cap ≤ maxLen → RD g'.im (.sl (chunk size n ds)) (.slice (some ⟨b, 0, none⟩) n cap)) ∧ Rel base g' Pr σ' w0 w := by
  obtain ⟨b, hb, ho⟩ := h.shr i cs hi
  obtain ⟨vs0, ty, hv, hl0, hrt0, hr0⟩ := ho.row
  obtain ⟨vs, hvs⟩ : ∃ vs : Array Value, vs = (vs0.toList.take cs.length).toArray := ⟨_, rfl⟩
  have hr : VRs g cs vs.toList := by rw [hvs]; simpa using hr0
  have hvl : vs.size = cs.length := by simpa using hr.length
  let g2 : Gh := { g with im := fun b' o => if b' = b then vs[o]? else g.im b' o }
  have hle : g.le g2 := ⟨fun b' o v hv' => by
    have : b' ≠ b := fun e => by subst e; rw [ho.im o] at hv'; cases hv'
    show (if b' = b then vs[o]? else g.im b' o) = some v
    rw [if_neg this]; exact hv', fun _ _ h => h, fun _ _ h => h, fun _ _ h => h⟩
  have hcell : ∀ o v, vs[o]? = some v → w.cell? ⟨b, o, none⟩ = some v := fun o v hov => by
    have hov0 : vs0[o]? = some v := by
      rw [hvs] at hov
      simp only [List.getElem?_toArray, List.getElem?_take] at hov
      split at hov
      · simpa using hov
      · cases hov
    unfold World.cell?
    simp [hv, hov0]
  obtain ⟨hdl, hdg⟩ := dvs_get hd
  have hrow : ∀ cap, n ≤ cap → cap ≤ maxLen → RD g2.im (.sl (chunk size n ds)) (.slice (some ⟨b, 0, none⟩) n cap) := by
    intro cap hcap hcm
    rcases Nat.eq_zero_or_pos n with h0 | h0
    · subst h0; exact .nil hcm (fun h => by cases h)
    · have := RD.sl (im := g2.im) (rows := chunk size n ds) (b := b) (off := 0) (cap := cap) (size := size) (f := fun i j => (vs[i * size + j]?).getD Go.undef) (by rw [chunk_len]; exact hcap) hcm
        (fun r hr' => ?_) (fun k j hk hj => ?_) (fun k r j x hk hj => ?_)
      · rw [chunk_len] at this; exact this
      · obtain ⟨k, hk, rfl⟩ := List.getElem_of_mem hr'
        rw [chunk_len] at hk
        have := chunk_row size n ds k _ (by rw [List.getElem?_eq_getElem (by rw [chunk_len]; exact hk)])
        rw [this, List.length_take, List.length_drop]
        have h1 : (k + 1) * size ≤ n * size := Nat.mul_le_mul_right _ hk
        rw [Nat.add_mul] at h1
        omega
      · rw [chunk_len] at hk
        have h1 : (k + 1) * size ≤ n * size := Nat.mul_le_mul_right _ hk
        rw [Nat.add_mul] at h1
        have hlt : k * size + j < vs.size := by omega
        show (if b = b then vs[0 + k * size + j]? else _) = _
        rw [if_pos rfl, Nat.zero_add, Array.getElem?_eq_getElem hlt]; rfl
      · have hkn : k < n := by have := (List.getElem?_eq_some_iff.1 hk).1; rw [chunk_len] at this; exact this
        have := chunk_row size n ds k r hk
        subst this
        rw [List.getElem?_take] at hj
        split at hj
        · rename_i hjs
          rw [List.getElem?_drop] at hj
          have hlt : k * size + j < cs.length := by rw [← hdl]; exact (List.getElem?_eq_some_iff.1 hj).1
          have hc := hdg (k * size + j) cs[k * size + j] x (by simp [hlt]) hj
          have hvv : vs.toList[k * size + j]? = some (vs[k * size + j]'(by omega)) := by simp
          have hvr := hr.idx (k * size + j) cs[k * size + j] _ (List.getElem?_eq_getElem hlt) hvv
          have := (hvr.data hc).mono hle.im
          rw [Array.getElem?_eq_getElem (by omega)]; exact this
        · cases hj
  refine ⟨g2, b, hle, hb, hrow, ?_⟩
  have hn' : ∀ j, σ'.blk j ≠ none → σ.blk j ≠ none ∧ j ≠ i := fun j hj => by
    cases hc : σ'.blk j with
    | none => exact absurd hc hj
    | some c => obtain ⟨h1, c0, h2, _⟩ := hσ j c hc; exact ⟨by rw [h2]; simp, h1⟩
  have hbi : σ.blk i ≠ none := by rw [hi]; simp
  refine ⟨fun b' o v hv' => ?_, fun j cs' hj => ?_, fun j k b' hj hk => h.inj j k b' (hn' j hj).1 (hn' k hk).1, fun t htk => ?_, fun b' hp => ?_, h.bel, h.bs, h.fin, h.st.mono hle hgt hbt⟩
  · by_cases e : b' = b
    · have hv2 : (if b' = b then vs[o]? else g.im b' o) = some v := hv'
      rw [if_pos e] at hv2
      rw [e]; exact hcell o v hv2
    · have hv2 : (if b' = b then vs[o]? else g.im b' o) = some v := hv'
      rw [if_neg e] at hv2
      exact h.im b' o v hv2
  · obtain ⟨hji, cs0, h0, hcs⟩ := hσ j cs' hj
    obtain ⟨b', hb', ho'⟩ := h.shr j cs0 h0
    obtain ⟨vs', ty', hv', hl', ht', hr'⟩ := ho'.row
    have hne : b' ≠ b := fun e => hji (h.inj j i b (by rw [h0]; simp) hbi (e ▸ hb') hb)
    refine ⟨b', hb', ?_, ⟨vs', ty', hv', ?_, ht', ?_⟩, ho'.low, fun o => ?_, ho'.pr⟩
    · rcases hcs with rfl | rfl
      · exact ho'.ok
      · exact frzs_ok ho'.ok
    · rcases hcs with rfl | rfl
      · exact hl'
      · rw [frzs_len]; exact hl'
    · rcases hcs with rfl | rfl
      · exact hr'.mono hle
      · rw [frzs_len]; exact hr'.frzs hle hb hrow
    · show (if b' = b then vs[o]? else g.im b' o) = none
      rw [if_neg hne]; exact ho'.im o
  · obtain ⟨v, e, size', n', xs, hmt, hown, hrest⟩ := (h.tok t (ht t htk)).row
    refine ⟨v, e, size', n', xs, hmt, hown, fun b' hvb => ?_⟩
    obtain ⟨h1, h2, h3, h4⟩ := hrest b' hvb
    have hne : b' ≠ b := fun e => h3 i hbi (e ▸ hb)
    refine ⟨fun o ho' => ?_, h2, fun j hj => h3 j (hn' j hj).1, fun t' v' e' s' hne' ht' => h4 t' v' e' s' hne' (ht t' ht')⟩
    show (if b' = b then vs[o]? else g.im b' o) = none
    rw [if_neg hne]; exact h1 o ho'
  · have hne : b' ≠ b := fun e => ho.pr (e ▸ hp)
    refine ⟨(h.pr b' hp).1, fun o => ?_⟩
    show (if b' = b then vs[o]? else g.im b' o) = none
    rw [if_neg hne]; exact (h.pr b' hp).2 o
variable {cx : Cx} {K : AV → Heap → Prop} {k : List CI}
theorem Run.freeze {i n size : Nat} {cs : List AV} {ds : List DV} (hi : σ.blk i = some cs) (hd : dvs cs = some ds) (hl : cs.length = n * size) (hn : n ≤ maxLen)
    (hF : ∀ s, F' s = F s ∨ F' s = frz i n (chunk size n ds) (F s)) (hL : ∀ k cs', L' k = some cs' → ∃ cs0, L k = some cs0 ∧ (cs' = cs0 ∨ cs' = frzs i n (chunk size n ds) cs0))
    (hσ : ∀ j cs', σ'.blk j = some cs' → j ≠ i ∧ ∃ cs0, σ.blk j = some cs0 ∧ (cs' = cs0 ∨ cs' = frzs i n (chunk size n ds) cs0)) (ht : ∀ t, σ'.tok t = true → σ.tok t = true)
    (h : Run cx K k F' L' σ') (hgt : σ'.gt = σ.gt := by rfl) (hbt : σ'.bt = σ.bt := by rfl) : Run cx K k F L σ := by
  intro items base g lam Pr a w0 w b cs0 hi0 hf hb hk
  obtain ⟨g', bb, hle, hmu, hrow, hrel⟩ := hf.rel.freeze hi hd hl hn hσ ht hgt hbt
  have hf' : FRel base g' lam Pr cx.N F' L' σ' a w0 w := by
    refine ⟨fun s => ?_, hf.sz, hf.df, fun k' cs' hk' => ?_, hf.inj, hf.npr, hrel⟩
    · have hs := hf.tm s
      have hsm : SV g' lam (F s) (a.tmps.getD s Go.undef) := by
        generalize F s = fs at hs
        cases fs <;> first | exact VR.mono hle hs | exact hs
      rcases hF s with e | e
      · rw [e]; exact hsm
      · rw [e]
        generalize F s = fs at hs hsm
        cases fs <;> first | exact hsm | exact SV.of_vr (VR.frz hle hmu hrow hs)
    · obtain ⟨c0, h0, hc⟩ := hL k' cs' hk'
      obtain ⟨hok, b', vs, ty, h1, h2, h3, h4⟩ := hf.loc k' c0 h0
      refine ⟨?_, b', vs, ty, h1, h2, h3, ?_⟩
      · rcases hc with rfl | rfl
        · exact hok
        · exact frzs_ok hok
      · rcases hc with rfl | rfl
        · exact h4.mono hle
        · exact h4.frzs hle hmu hrow
  obtain ⟨v, w', fr, hs, hfn, hlv, av, g2, σ2, h1, h2, h3, h4, h5⟩ := h items base g' lam Pr a w0 w b cs0 hi0 hf' hb hk
  exact ⟨v, w', fr, hs, hfn, hlv, av, g2, σ2, h1, h2, Gh.le_trans hle h3, h4, h5⟩
theorem XT_all {K K' : Kont} (hk : ∀ F L σ, K F L σ → K' F L σ) : ∀ (t : QT) (b : Bool) (F : Fm) (L : Lm) (σ : Heap), XT P K b t F L σ → XT P K' b t F L σ
  | .done, false, F, L, σ, h => hk _ _ _ h
  | .done, true, F, L, σ, h => trivial
  | .one q t, b, F, L, σ, h => by
    have h : XQ P q (XT P K false t) F L σ := by cases b <;> exact h
    have : XQ P q (XT P K' false t) F L σ := XQ_all (fun F L σ h => XT_all hk t false F L σ h) h
    cases b <;> exact this
  | .alt q t r, b, F, L, σ, h => by
    have h : XQ P q (XT P K false t) F L σ ∧ XT P K true r F L σ := by cases b <;> exact h
    have : XQ P q (XT P K' false t) F L σ ∧ XT P K' true r F L σ := ⟨XQ_all (fun F L σ h => XT_all hk t false F L σ h) h.1, XT_all hk r true F L σ h.2⟩
    cases b <;> exact this
theorem Run.regTC {t : QT} {live : List Nat} (hm : cx.P.follows .mixedOrders = true) (R : Kont) (h1 : XT cx.P R false t F L σ) (h2 : ∀ F L σ, R F L σ → Run cx K k (keep live F) (keepL live L) σ) : Run cx K (.code (.regT t live) :: k) F L σ :=
  Run.regT hm (XT_all (fun F L σ h => h2 F L σ h) t false F L σ h1)
theorem Run.regC {ops : List Q} {live : List Nat} (hm : cx.P.follows .mixedOrders = true) (R : Kont) (h1 : XOps cx.P R ops F L σ) (h2 : ∀ F L σ, R F L σ → Run cx K k (keep live F) (keepL live L) σ) : Run cx K (.code (.reg ops live) :: k) F L σ :=
  Run.reg hm (XOps_all ops (fun F L σ h => h2 F L σ h) h1)
theorem Rel.weakV (h : Rel base g Pr σ w0 w) (hσ : ∀ j cs', σ'.blk j = some cs' → ∃ cs, σ.blk j = some cs ∧ cellsOk cs' = true ∧ cs'.length = cs.length ∧ ∀ vs, VRs g cs vs → VRs g cs' vs) (ht : ∀ t, σ'.tok t = true → σ.tok t = true) (hgt : σ'.gt = σ.gt) (hbt : σ'.bt = σ.bt) : Rel base g Pr σ' w0 w := by
  have hn : ∀ j, σ'.blk j ≠ none → σ.blk j ≠ none := fun j hj => by
    cases hc : σ'.blk j with
    | none => exact absurd hc hj
    | some c => obtain ⟨c0, h2, _⟩ := hσ j c hc; rw [h2]; simp
  refine ⟨h.im, fun j cs' hj => ?_, fun j k b hj hk => h.inj j k b (hn j hj) (hn k hk), fun t htk => ?_, h.pr, h.bel, h.bs, h.fin, ⟨fun b vs hv => h.st.1 b vs (by rw [← hgt]; exact hv), fun i x hx => h.st.2 i x (by rw [← hbt]; exact hx)⟩⟩
  · obtain ⟨cs, hc, hok, hln, hv⟩ := hσ j cs' hj
    obtain ⟨b, hb, ho⟩ := h.shr j cs hc
    obtain ⟨vs, ty, h1, h2, h3, h4⟩ := ho.row
    exact ⟨b, hb, hok, ⟨vs, ty, h1, by rw [hln]; exact h2, h3, by rw [hln]; exact hv _ h4⟩, ho.low, ho.im, ho.pr⟩
  · obtain ⟨v, e, size, n, xs, hm, hown, hrest⟩ := (h.tok t (ht t htk)).row
    refine ⟨v, e, size, n, xs, hm, hown, fun b hvb => ?_⟩
    obtain ⟨h1, h2, h3, h4⟩ := hrest b hvb
    exact ⟨h1, h2, fun j hj => h3 j (hn j hj), fun t' v' e' s' hne ht' => h4 t' v' e' s' hne (ht t' ht')⟩
theorem Run.weakV (hσ : ∀ j cs', σ'.blk j = some cs' → ∃ cs, σ.blk j = some cs ∧ (cs' = cs ∨ cs' = AV.plains cs)) (ht : ∀ t, σ'.tok t = true → σ.tok t = true) (h : Run cx K k F L σ') (hgt : σ'.gt = σ.gt := by rfl) (hbt : σ'.bt = σ.bt := by rfl) : Run cx K k F L σ := by
  intro items base g lam Pr a w0 w b cs0 hi0 hf hb hk
  refine h items base g lam Pr a w0 w b cs0 hi0 ⟨hf.tm, hf.sz, hf.df, hf.loc, hf.inj, hf.npr, hf.rel.weakV (fun j cs' hj => ?_) ht hgt hbt⟩ hb hk
  obtain ⟨cs, hc, hp⟩ := hσ j cs' hj
  obtain ⟨_, _, ho⟩ := hf.rel.shr j cs hc
  refine ⟨cs, hc, ?_, (by rcases hp with rfl | rfl <;> simp [plains_len]), fun vs hv => ?_⟩
  · rcases hp with rfl | rfl
    · exact ho.ok
    · have := ho.ok
      simp only [cellsOk, List.all_eq_true] at this ⊢
      intro v hv
      obtain ⟨i, hi, rfl⟩ := List.getElem_of_mem hv
      have h1 := plains_get cs i
      rw [List.getElem?_eq_getElem hi] at h1
      cases hcs : cs[i]? with
      | none => rw [hcs] at h1; cases h1
      | some c' => rw [hcs] at h1; simp only [Option.map_some, Option.some.injEq] at h1; rw [h1]; exact plain_cell (this c' (List.mem_of_getElem? hcs))
  · rcases hp with rfl | rfl
    · exact hv
    · exact hv.plain
theorem Run.loopI {α : Type} {c : C} (fr : α → Fm) (lo : α → Lm) (hp : α → Heap) (inv : α → Prop) (m : α → Nat)
    (step : ∀ x, inv x → (∀ y, inv y → m y < m x → Run cx K (.again c :: k) (fr y) (lo y) (hp y)) → Run cx K (.code c :: .again c :: k) (fr x) (lo x) (hp x)) (x : α) (hx : inv x) :
    Run cx K (.again c :: k) (fr x) (lo x) (hp x) := by
  have : ∀ (n : Nat) (x : α), m x ≤ n → inv x → Run cx K (.again c :: k) (fr x) (lo x) (hp x) := by
    intro n
    induction n with
    | zero => intro x hn hx; exact Run.again (step x hx (fun y _ hy => by omega))
    | succ n ih => intro x hn hx; exact Run.again (step x hx (fun y hy hlt => ih y (by omega) hy))
  exact this _ x (Nat.le_refl _) hx
end Go.Ab

namespace Go.Ab
attribute [go_sem] xo_ex xex_cap xex_b2s xex_usd xex_alt exP exVal nilS lpOf_mv lpOf_bp cells_mv cells_bp isCell_mv isCell_bp noLp_mv noLp_bp dv_mv dv_bp plain_mv plain_bp cellV noLpV xo_ldl ldlA xo_appm xo_trn xo_bslm xo_fd xo_ssl xo_sls xo_pnil xo_steq xo_mm3 xo_boxi fdA slsA pnilA steqA intsEq bndA_no lpOf_nilf cells_nilf isCell_nilf noLp_nilf plain_nilf dv_nilf Option.map_none false_implies true_implies xt_one xt_alt xt_done xt_over xo_nil xpv_some xo_mv xo_pick xo_fld xo_ld xo_ix xo_sidx xo_len xo_slen xo_bin xo_binb xo_un xo_conv xo_bld xo_bsl xo_mkf xo_ext xo_nck xo_mm xo_box xo_al xo_boxg xo_alg xo_st xst_some xo_call xo_pcall xo_app xo_callv xo_msl xo_gt xo_gf gdV_b gdV_s putO_some put_get putL_get E_get U_get keep_nil keep_cons keepL_nil keepL_cons putLO_some putLO_E putLO_putL putL_putL xv_t xv_c ixA ixR Int.toNat_natCast Int.natCast_nonneg xret_some retA rvsA rvA cells_d cells_nils cells_own cells_clip cells_agg cells_lp cells_gp cells_ep cells_nilp cells_ms cells_fn cells_tup cells_undef isCell_d isCell_nils isCell_own isCell_clip isCell_agg isCell_lp isCell_gp isCell_ep isCell_nilp isCell_ms isCell_fn isCell_tup isCell_undef noLp_d noLp_nils noLp_own noLp_clip noLp_agg noLp_lp noLp_gp noLp_ep noLp_nilp noLp_ms noLp_fn noLp_tup noLp_undef dv_d dv_nils dv_own dv_clip dv_agg dv_lp dv_gp dv_ep dv_nilp dv_ms dv_fn dv_tup dv_undef rows_nils rows_own rows_clip rows_d lenA_nils lenA_own lenA_clip lenA_ms lenA_mv lenA_d plain_d plain_nils plain_own plain_clip plain_agg plain_lp plain_gp plain_ep plain_nilp plain_ms plain_fn plain_tup plain_undef AV.plains Cut RunL xcond_t xcond_f xcond_b pickA fldA rdC ldA slenA intA binA binbA unA extA nckA stA wr fillA dvs chunk xvs cellsOk purge_U purge_put lpOf_d lpOf_nils lpOf_own lpOf_clip lpOf_agg lpOf_lp lpOf_gp lpOf_ep lpOf_nilp lpOf_ms lpOf_fn lpOf_tup lpOf_undef setBlk_get setBlk_set addTok_blk delTok_blk Option.bind_some Option.map_some Option.bind_eq_bind Option.pure_def List.map_cons List.map_nil List.all_cons List.all_nil List.length_cons List.length_nil List.getElem?_cons_zero List.getElem?_cons_succ List.take_succ_cons List.take_zero List.drop_succ_cons List.drop_zero List.take_nil List.drop_nil List.cons_append List.nil_append List.append_nil Bool.and_self Bool.and_true Bool.true_and Bool.or_true Bool.true_or Bool.or_false Bool.false_or Bool.not_true Bool.not_false Bool.and_false Bool.false_and Bool.not_not BEq.rfl beq_self_eq_true Nat.add_zero Nat.zero_add decide_true decide_false Nat.le_refl and_self and_true true_and ite_true ite_false Bool.false_eq_true Bool.cond_true Bool.cond_false beq_true beq_false Bool.true_beq Bool.false_beq
def ctOf : C → List (List Nat × PT)
  | .reg _ l => [(l, .done)]
  | .regT _ l => [(l, .done)]
  | .seq x y => ctOf x ++ ctOf y
  | .cond _ t e => ctOf t ++ ctOf e
  | .block _ c => ctOf c
  | .loop c => ctOf c
  | .scope c => ctOf c
  | _ => []
end Go.Ab

namespace Go.Ab
inductive Ty where
  | mk (kind num : Int) (args : List Ty)
def Ty.kind : Ty → Int | .mk k _ _ => k
def Ty.num : Ty → Int | .mk _ n _ => n
def Ty.args : Ty → List Ty | .mk _ _ l => l
mutual
def Ty.enc : Ty → List DV
  | .mk k n l => [.int .i64 k, .int .i64 n, .sl (Ty.encs l)]
def Ty.encs : List Ty → List (List DV)
  | [] => []
  | t :: l => Ty.enc t :: Ty.encs l
end
mutual
def Ty.size : Ty → Nat
  | .mk _ _ l => 1 + Ty.sizes l
def Ty.sizes : List Ty → Nat
  | [] => 0
  | t :: l => Ty.size t + Ty.sizes l
end
def tyA (t : Ty) : AV := .agg (t.enc.map AV.d)
def tysA (l : List Ty) : AV := .d (.sl (Ty.encs l))
theorem encs_len : ∀ l : List Ty, (Ty.encs l).length = l.length
  | [] => rfl
  | t :: l => by simp [Ty.encs, encs_len l]
theorem encs_get : ∀ (l : List Ty) (i : Nat), (Ty.encs l)[i]? = (l[i]?).map Ty.enc
  | [], i => by simp [Ty.encs]
  | t :: l, 0 => by simp [Ty.encs]
  | t :: l, i + 1 => by simp [Ty.encs, encs_get l i]
theorem encs_at {l : List Ty} {i : Nat} {k n : Int} {a : List Ty} (h : l[i]? = some (.mk k n a)) : (Ty.encs l)[i]? = some [.int .i64 k, .int .i64 n, .sl (Ty.encs a)] := by
  rw [encs_get, h]; rfl
theorem enc_len : ∀ t : Ty, t.enc.length = 3
  | .mk _ _ _ => rfl
theorem encs_append : ∀ l m : List Ty, Ty.encs (l ++ m) = Ty.encs l ++ Ty.encs m
  | [], m => rfl
  | t :: l, m => by simp [Ty.encs, encs_append l m]
theorem encs_rows : ∀ (l : List Ty), ∀ r ∈ Ty.encs l, r.length = 3
  | [], r, h => by simp [Ty.encs] at h
  | t :: l, r, h => by
    simp only [Ty.encs, List.mem_cons] at h
    rcases h with rfl | h
    · exact enc_len t
    · exact encs_rows l r h
theorem take_snoc {α : Type} {l : List α} {i : Nat} {x : α} (h : l[i]? = some x) : l.take (i + 1) = l.take i ++ [x] := by
  rw [List.take_add_one, h]; rfl
theorem sizes_snoc : ∀ (l : List Ty) (t : Ty), Ty.sizes (l ++ [t]) = Ty.sizes l + t.size
  | [], t => by simp [Ty.sizes]
  | u :: l, t => by simp only [List.cons_append, Ty.sizes, sizes_snoc l t]; omega
theorem sizes_append : ∀ (l m : List Ty), Ty.sizes (l ++ m) = Ty.sizes l + Ty.sizes m
  | [], m => by simp [Ty.sizes]
  | u :: l, m => by simp only [List.cons_append, Ty.sizes, sizes_append l m]; omega
theorem sizes_get {l : List Ty} {i : Nat} {t : Ty} (h : l[i]? = some t) : Ty.sizes (l.take i) + t.size ≤ Ty.sizes l := by
  have : l = l.take i ++ l.drop i := (List.take_append_drop i l).symm
  have hd : l.drop i = t :: l.drop (i + 1) := by
    have hlt := (List.getElem?_eq_some_iff.1 h).1
    rw [List.drop_eq_getElem_cons hlt]
    congr 1
    exact (List.getElem?_eq_some_iff.1 h).2
  conv => rhs; rw [this, sizes_append, hd]
  simp only [Ty.sizes]; omega
theorem size_pos : ∀ t : Ty, 1 ≤ t.size
  | .mk _ _ _ => by simp [Ty.size]
theorem len_sizes : ∀ l : List Ty, l.length ≤ Ty.sizes l
  | [] => by simp [Ty.sizes]
  | t :: l => by have := len_sizes l; have := size_pos t; simp only [List.length_cons, Ty.sizes]; omega
end Go.Ab

namespace Go.Ab
abbrev Str := List UInt8
inductive TE where
  | mk (kind : Int) (name : Str) (args : List TE)
structure CE where
  name : Str
  args : List TE
structure DE where
  name : Str
  vars : List Str
  cons : List CE
mutual
inductive Ex where
  | mk (op : Int) (name : Str) (num : Int) (names : List Str) (kids : List Ex) (alts : List Al)
inductive Al where
  | mk (con : Str) (vars : List Str) (body : Ex)
end
structure FE where
  name : Str
  params : List Str
  body : Ex
structure Pg where
  data : List DE
  funs : List FE
def sRow (s : Str) : List DV := [.str s]
def iRow (n : Int) : List DV := [.int .i64 n]
def bRow (b : Bool) : List DV := [.bool b]
def ssD (l : List Str) : DV := .sl (l.map sRow)
def isD (l : List Int) : DV := .sl (l.map iRow)
def bsD (l : List Bool) : DV := .sl (l.map bRow)
mutual
def TE.enc : TE → List DV
  | .mk k n l => [.int .i64 k, .str n, .sl (TE.encs l)]
def TE.encs : List TE → List (List DV)
  | [] => []
  | t :: l => TE.enc t :: TE.encs l
end
theorem TE.encs_map : ∀ l : List TE, TE.encs l = l.map TE.enc
  | [] => rfl
  | t :: l => by simp [TE.encs, TE.encs_map l]
theorem TE.enc_mk (k : Int) (n : Str) (l : List TE) : (TE.mk k n l).enc = [.int .i64 k, .str n, .sl (l.map TE.enc)] := by
  simp [TE.enc, TE.encs_map]
mutual
def Ex.enc : Ex → List DV
  | .mk o n u ns ks as => [.int .i64 o, .str n, .int .i64 u, ssD ns, .sl (Ex.encs ks), .sl (Al.encs as)]
def Ex.encs : List Ex → List (List DV)
  | [] => []
  | t :: l => Ex.enc t :: Ex.encs l
def Al.enc : Al → List DV
  | .mk c vs b => .str c :: ssD vs :: Ex.enc b
def Al.encs : List Al → List (List DV)
  | [] => []
  | t :: l => Al.enc t :: Al.encs l
end
theorem Ex.encs_map : ∀ l : List Ex, Ex.encs l = l.map Ex.enc
  | [] => rfl
  | t :: l => by simp [Ex.encs, Ex.encs_map l]
theorem Al.encs_map : ∀ l : List Al, Al.encs l = l.map Al.enc
  | [] => rfl
  | t :: l => by simp [Al.encs, Al.encs_map l]
theorem Ex.enc_mk (o : Int) (n : Str) (u : Int) (ns : List Str) (ks : List Ex) (as : List Al) : (Ex.mk o n u ns ks as).enc = [.int .i64 o, .str n, .int .i64 u, .sl (ns.map sRow), .sl (ks.map Ex.enc), .sl (as.map Al.enc)] := by
  simp [Ex.enc, Ex.encs_map, Al.encs_map, ssD]
theorem Al.enc_mk (c : Str) (vs : List Str) (o : Int) (n : Str) (u : Int) (ns : List Str) (ks : List Ex) (as : List Al) : (Al.mk c vs (.mk o n u ns ks as)).enc = [.str c, .sl (vs.map sRow), .int .i64 o, .str n, .int .i64 u, .sl (ns.map sRow), .sl (ks.map Ex.enc), .sl (as.map Al.enc)] := by
  simp [Al.enc, Ex.enc_mk, ssD]
def CE.enc (c : CE) : List DV := [.str c.name, .sl (c.args.map TE.enc)]
def DE.enc (d : DE) : List DV := [.str d.name, .sl (d.vars.map sRow), .sl (d.cons.map CE.enc)]
def FE.enc (f : FE) : List DV := .str f.name :: .sl (f.params.map sRow) :: f.body.enc
def Pg.enc (p : Pg) : List DV := [.sl (p.data.map DE.enc), .sl (p.funs.map FE.enc)]
def teA (t : TE) : AV := .agg (t.enc.map AV.d)
def exA (e : Ex) : AV := .agg (e.enc.map AV.d)
def alA (e : Al) : AV := .agg (e.enc.map AV.d)
def ceA (c : CE) : AV := .agg (c.enc.map AV.d)
def deA (c : DE) : AV := .agg (c.enc.map AV.d)
def feA (c : FE) : AV := .agg (c.enc.map AV.d)
def pgA (p : Pg) : AV := .agg (p.enc.map AV.d)
def boolA (b : Bool) : AV := .d (.bool b)
def ssA (l : List Str) : AV := .d (.sl (l.map sRow))
theorem Ty.encs_map : ∀ l : List Ty, Ty.encs l = l.map Ty.enc
  | [] => rfl
  | t :: l => by simp [Ty.encs, Ty.encs_map l]
theorem row_at {α : Type} {enc : α → List DV} {l : List α} {i : Nat} {x : α} (h : l[i]? = some x) : (l.map enc)[i]? = some (enc x) := by
  rw [List.getElem?_map, h]; rfl
theorem drop_at {α : Type} {l : List α} {i : Nat} {x : α} (h : l[i]? = some x) : l.drop i = x :: l.drop (i + 1) := by
  have hlt := (List.getElem?_eq_some_iff.1 h).1
  rw [List.drop_eq_getElem_cons hlt]; congr 1; exact (List.getElem?_eq_some_iff.1 h).2
theorem ex_at {α : Type} {l : List α} {i : Nat} (h : i < l.length) : ∃ x, l[i]? = some x := ⟨l[i], by simp [h]⟩
mutual
def TE.size : TE → Nat
  | .mk _ _ l => 1 + TE.sizes l
def TE.sizes : List TE → Nat
  | [] => 0
  | t :: l => TE.size t + TE.sizes l
end
mutual
def Ex.size : Ex → Nat
  | .mk _ _ _ _ ks as => 1 + Ex.sizes ks + Al.sizes as
def Ex.sizes : List Ex → Nat
  | [] => 0
  | t :: l => Ex.size t + Ex.sizes l
def Al.size : Al → Nat
  | .mk _ _ b => Ex.size b
def Al.sizes : List Al → Nat
  | [] => 0
  | t :: l => Al.size t + Al.sizes l
end
theorem TE.size_pos : ∀ t : TE, 1 ≤ t.size
  | .mk _ _ _ => by simp [TE.size]
theorem Ex.size_pos : ∀ t : Ex, 1 ≤ t.size
  | .mk _ _ _ _ _ _ => by simp only [Ex.size]; omega
theorem TE.mem_sz {l : List TE} {t : TE} (h : t ∈ l) : t.size ≤ TE.sizes l := by
  induction l with
  | nil => cases h
  | cons u l ih =>
    simp only [TE.sizes]
    cases h with
    | head => omega
    | tail _ h => have := ih h; omega
theorem Ex.mem_sz {l : List Ex} {t : Ex} (h : t ∈ l) : t.size ≤ Ex.sizes l := by
  induction l with
  | nil => cases h
  | cons u l ih =>
    simp only [Ex.sizes]
    cases h with
    | head => omega
    | tail _ h => have := ih h; omega
theorem Al.mem_sz {l : List Al} {t : Al} (h : t ∈ l) : t.size ≤ Al.sizes l := by
  induction l with
  | nil => cases h
  | cons u l ih =>
    simp only [Al.sizes]
    cases h with
    | head => omega
    | tail _ h => have := ih h; omega
theorem TE.len_sizes : ∀ l : List TE, l.length ≤ TE.sizes l
  | [] => by simp [TE.sizes]
  | t :: l => by have := TE.len_sizes l; have := TE.size_pos t; simp only [List.length_cons, TE.sizes]; omega
theorem Ex.len_sizes : ∀ l : List Ex, l.length ≤ Ex.sizes l
  | [] => by simp [Ex.sizes]
  | t :: l => by have := Ex.len_sizes l; have := Ex.size_pos t; simp only [List.length_cons, Ex.sizes]; omega
theorem Al.len_sizes : ∀ l : List Al, l.length ≤ Al.sizes l
  | [] => by simp [Al.sizes]
  | .mk _ _ b :: l => by have := Al.len_sizes l; have := Ex.size_pos b; simp only [List.length_cons, Al.sizes, Al.size]; omega
theorem TE.sizes_append : ∀ (l m : List TE), TE.sizes (l ++ m) = TE.sizes l + TE.sizes m
  | [], m => by simp [TE.sizes]
  | u :: l, m => by simp only [List.cons_append, TE.sizes, TE.sizes_append l m]; omega
theorem Ex.sizes_append : ∀ (l m : List Ex), Ex.sizes (l ++ m) = Ex.sizes l + Ex.sizes m
  | [], m => by simp [Ex.sizes]
  | u :: l, m => by simp only [List.cons_append, Ex.sizes, Ex.sizes_append l m]; omega
theorem Al.sizes_append : ∀ (l m : List Al), Al.sizes (l ++ m) = Al.sizes l + Al.sizes m
  | [], m => by simp [Al.sizes]
  | u :: l, m => by simp only [List.cons_append, Al.sizes, Al.sizes_append l m]; omega
end Go.Ab
