/- append onto shared rows, parts of shared rows, shared rows as literals. Conditions: none. -/
import Derived.Test.YtlckhmkeihbhmaaXAb9
set_option linter.unusedSimpArgs false
namespace Go.Ab
open Go.RowKit
variable {P : Program} {base N : Nat} {g g' : Gh} {Pr : Nat → Prop} {σ σ' : Heap} {w0 w w' : World} {lam : Nat → Option Nat} {F : Fm} {L : Lm} {a : Act}
theorem app_run {t ty e : TypeId} {i : TypeInfo} {z : Value} (ht : P.underlying t = some (.slice e)) (hi : P.info? e = some i) (hz : i.zero = some z) (hzs : z.cells.size = i.size)
    (h : FRel base g lam Pr N F L σ a w0 w) {q : AV} {pvl qvl : Value} (hq : SV g lam q qvl) {srows : List (List DV)} {n : Nat} {xs : List Value} (hmine : w.ownsRow base e i.size pvl n xs)
    (hqr : q.rows = some srows) (hss : ∀ r ∈ srows, r.length = i.size) (h63 : n + srows.length ≤ maxLen) (hby : (n + srows.length) * i.bytes ≤ 140737488355328) :
    ∃ (m : Nat) (news : List Value) (v' : Value) (w' : World), (Builtin.append_ #[t, t] ty #[pvl, qvl]).run P w = .ok v' w' ∧ m = srows.length ∧ news.length = m * i.size ∧
      w'.ownsRow base e i.size v' (n + m) (xs ++ news) ∧ w.grownBy w' v'.ownBlock ∧ (∀ k, v'.ownBlock = some k → pvl.ownBlock = some k ∨ w.heap.size ≤ k) ∧
      (∀ (j : Nat) (x : DV), srows.flatten[j]? = some x → ∃ v, news[j]? = some v ∧ RD g.im x v) := by
  have hqd : RD g.im (.sl srows) qvl := by
    cases q with
    | d x => cases x <;> simp only [AV.rows, Option.some.injEq] at hqr <;> try (cases hqr; done)
             subst hqr; cases hq with | d h => exact h
    | nils => simp only [AV.rows, Option.some.injEq] at hqr; subst hqr; cases hq; exact .nil (Nat.zero_le _) (fun _ => rfl)
    | own _ _ _ _ => simp only [AV.rows, Option.some.injEq] at hqr; subst hqr; cases hq with | own h _ _ => exact h
    | clip _ => simp only [AV.rows, Option.some.injEq] at hqr; subst hqr; cases hq with | clip h => exact h
    | _ => cases hqr
  by_cases h0 : srows.length = 0
  · have hnil : srows = [] := List.eq_nil_of_length_eq_zero h0
    subst hnil
    cases hqd with
    | @nil ad cap hcm hcap =>
      cases ad with
      | none =>
        have := hcap rfl; subst this
        refine ⟨0, [], pvl, w, run_append_owned_none w base t ty e i i.size ht hi pvl n xs hmine, rfl, by simp, by simpa using hmine, ⟨rfl, rfl, rfl, Nat.le_refl _, fun _ _ _ => rfl⟩, fun k hk => .inl hk, by simp⟩
      | some ad =>
        obtain ⟨v', w', h1, h2, h3, h4⟩ := run_append_own2 (P := P) w base t ty e i z i.size i.bytes ht hi hz rfl rfl hzs pvl n xs hmine ad 0 cap [] (by simp) (by simp) (by simp) (by simpa using h63) (by simpa using hby) h.rel.bs
        exact ⟨0, [], v', w', h1, rfl, by simp, h2, h3, h4, by simp⟩
    | sl hc hm hs hi hr =>
      obtain ⟨v', w', h1, h2, h3, h4⟩ := run_append_own2 (P := P) w base t ty e i z i.size i.bytes ht ‹_› hz rfl rfl hzs pvl n xs hmine _ 0 _ [] (by simp) (by simp) (by simp) (by simpa using h63) (by simpa using hby) h.rel.bs
      exact ⟨0, [], v', w', h1, rfl, by simp, h2, h3, h4, by simp⟩
  · obtain ⟨ad, cap, rfl, _⟩ := hqd.sl_len
    have hpos : 0 < srows.length := Nat.pos_of_ne_zero h0
    obtain ⟨b, off, rfl⟩ : ∃ b off, ad = some ⟨b, off, none⟩ := by
      generalize hvv : (Value.slice ad srows.length cap) = vv at hqd
      cases hqd with
      | nil => simp at hpos
      | sl => cases hvv; exact ⟨_, _, rfl⟩
    obtain ⟨news, hnl, _, hni, hnr⟩ := RD.cellsOf hss hqd hpos
    have hones : ∀ u ∈ news, u.oneCell' = true := by
      intro u hu
      obtain ⟨j, hj, rfl⟩ := List.getElem_of_mem hu
      have hjf : j < srows.flatten.length := by rw [flat_length srows hss, ← hnl]; exact hj
      obtain ⟨v, hv, hrd⟩ := hnr j srows.flatten[j] (by simp)
      have : v = news[j] := by rw [List.getElem?_eq_getElem hj] at hv; cases hv; rfl
      rw [← this]; exact hrd.one
    obtain ⟨v', w', h1, h2, h3, h4⟩ := run_append_own2 (P := P) w base t ty e i z i.size i.bytes ht hi hz rfl rfl hzs pvl n xs hmine ⟨b, off, none⟩ srows.length cap news hnl
      (fun j u hu => by rw [Addr.add_lit]; exact h.rel.im _ _ _ (hni j u hu)) hones h63 hby h.rel.bs
    exact ⟨srows.length, news, v', w', h1, rfl, hnl, h2, h3, h4, hnr⟩
theorem Rel.hide (h : Rel base g Pr σ w0 w) {i b : Nat} {cs : List AV} (hi : σ.blk i = some cs) (hm : g.mu i = some b) : Rel base g (fun x => Pr x ∨ x = b) (σ.delBlk i) w0 w := by
  obtain ⟨b0, hb0, ho⟩ := h.shr i cs hi
  rw [hm] at hb0; cases hb0
  have hlt := h.shr_lt hi hm
  have hn : ∀ j, (σ.delBlk i).blk j ≠ none → j ≠ i ∧ σ.blk j ≠ none := fun j hj => by
    by_cases e : j = i
    · subst e; simp [Heap.delBlk] at hj
    · exact ⟨e, by simpa [Heap.delBlk, e] using hj⟩
  have hbi : σ.blk i ≠ none := by rw [hi]; simp
  refine ⟨h.im, fun j cs' hj => ?_, fun j k b' hj hk => h.inj j k b' (hn j hj).2 (hn k hk).2, fun t ht => ?_, fun x hx => ?_, h.bel, h.bs, h.fin, h.st⟩
  · have hji := (hn j (by rw [hj]; simp)).1
    have hj' : σ.blk j = some cs' := by simpa [Heap.delBlk, hji] using hj
    obtain ⟨b', hb', ho'⟩ := h.shr j cs' hj'
    refine ⟨b', hb', ho'.ok, ho'.row, ho'.low, ho'.im, fun hp => ?_⟩
    rcases hp with hp | hp
    · exact ho'.pr hp
    · exact hji (h.inj j i b (by rw [hj']; simp) hbi (hp ▸ hb') hm)
  · have ht' : σ.tok t = true := ht
    obtain ⟨v, e, size, n, xs, hmt, hown, hrest⟩ := (h.tok t ht').row
    refine ⟨v, e, size, n, xs, hmt, hown, fun b' hvb => ?_⟩
    obtain ⟨h1, h2, h3, h4⟩ := hrest b' hvb
    refine ⟨h1, fun hp => ?_, fun j hj => h3 j (hn j hj).2, h4⟩
    rcases hp with hp | hp
    · exact h2 hp
    · exact h3 i hbi (hp ▸ hm)
  · rcases hx with hx | hx
    · exact h.pr x hx
    · subst hx; exact ⟨hlt, ho.im⟩
def appmA (σ : Heap) (e size : Nat) : AV → Option (Nat × List AV × Heap)
  | .nils => some (0, [], σ)
  | .ms i n s e' => if s = size ∧ e' = e then (σ.blk i).bind fun cs => if cs.length = n * size then some (n, cs, σ.delBlk i) else none else none
  | _ => none
def newCells (srows : List (List DV)) : List AV := srows.flatten.map AV.d
theorem appm_sound {t ty e : TypeId} {i : TypeInfo} {z : Value} (ht : P.underlying t = some (.slice e)) (hi : P.info? e = some i) (hz : i.zero = some z) (hzs : z.cells.size = i.size)
    (h : FRel base g lam Pr N F L σ a w0 w) {p q : AV} {pvl qvl : Value} (hp : SV g lam p pvl) (hq : SV g lam q qvl) {srows : List (List DV)} {n : Nat} {cs : List AV} {σ1 : Heap}
    (hpa : appmA σ e i.size p = some (n, cs, σ1)) (hqr : q.rows = some srows) (hss : ∀ r ∈ srows, r.length = i.size) (hne : srows ≠ [])
    (h63 : n + srows.length ≤ maxLen) (hby : (n + srows.length) * i.bytes ≤ 140737488355328) :
    ∃ x g' w' j, (Builtin.append_ #[t, t] ty #[pvl, qvl]).run P w = .ok x w' ∧ g.le g' ∧ KP Pr w w' ∧ σ.blk j = none ∧ VR g' (.ms j (n + srows.length) i.size e) x ∧
      FRel base g' lam Pr N F L (σ1.setBlk j (cs ++ newCells srows)) a w0 w' := by
  obtain ⟨j, hj, htau, hblk, htok⟩ := h.rel.fresh
  have hstart : ∃ (b0 : Nat → Prop) (xs : List Value), w.ownsRow base e i.size pvl n xs ∧ cs.length = n * i.size ∧ VRs g cs xs ∧ cellsOk cs = true ∧ (∀ b, pvl.ownBlock = some b → b0 b) ∧ (∀ b, b0 b → pvl.ownBlock = some b) ∧
      Rel base g (fun x => (Pr x ∨ ∃ k, lam k = some x) ∨ b0 x) σ1 w0 w ∧ (∀ b, b0 b → (∀ o, g.im b o = none) ∧ ¬ (Pr b ∨ ∃ k, lam k = some b)) := by
    unfold appmA at hpa
    split at hpa
    · cases hpa; cases hp
      refine ⟨fun _ => False, [], World.ownsRow_nil w base e i.size, by simp, .nil, rfl, fun b hb => by simp [Value.ownBlock] at hb, fun b hb => hb.elim, ?_, fun b hb => hb.elim⟩
      exact h.rel.grow (Nat.le_refl _) (fun _ _ _ => rfl) (Below.refl _ _) (fun b hb => by
        rcases hb with hb | hb
        · exact ⟨(h.rel.pr b hb).1, .inl hb⟩
        · exact hb.elim)
    · rename_i i0 n0 s0 e0
      split at hpa
      case isFalse => cases hpa
      rename_i hcond
      obtain ⟨rfl, rfl⟩ := hcond
      simp only [Option.bind_eq_some_iff] at hpa
      obtain ⟨cs0, hcs0, hpa⟩ := hpa
      split at hpa
      case isFalse => cases hpa
      rename_i hlen
      cases hpa
      cases hp with
      | @ms _ _ _ _ b cap hm hr hn hmx =>
        obtain ⟨b', hb', ho⟩ := h.rel.shr i0 cs hcs0
        rw [hm] at hb'; cases hb'
        obtain ⟨vs, ty', hv, hl, hrt, hvr⟩ := ho.row
        obtain ⟨hsz, hty⟩ := hrt _ hr
        simp only at hsz hty
        subst hty
        refine ⟨fun x => x = b, vs.toList.take cs.length, ⟨by simp; omega, .inr ⟨b, cap, vs, rfl, ho.low, hv, hn, hmx, hsz, by rw [hlen]⟩⟩, hlen, hvr, ho.ok, fun b2 hb2 => by simp [Value.ownBlock] at hb2; exact hb2.symm, fun b2 hb2 => by simp [Value.ownBlock, hb2], h.rel.hide hcs0 hm, fun b2 hb2 => ?_⟩
        subst hb2
        exact ⟨ho.im, ho.pr⟩
    · cases hpa
  obtain ⟨b0, xs, hown, hcl, hvr, hcok, hb1, hb2, hrel1, hb3⟩ := hstart
  obtain ⟨m, news, v', w', hrun, rfl, hnl, hown', hgr, hwh, hnr⟩ := app_run ht hi hz hzs h hq hown hqr hss h63 hby
  have hsame : ∀ b, b < w.heap.size → v'.ownBlock ≠ some b → w'.heap[b]? = w.heap[b]? := fun b hb hne => hgr.block b hb (Ne.symm hne)
  have hbel : Below base w w' := ⟨hgr.os, hgr.tape, hgr.output, hgr.size, fun k hk => hsame k (by have := h.rel.bs; omega) fun e' => by have := (hown'.lt k e').1; omega⟩
  have hrel2 : Rel base g (fun x => Pr x ∨ ∃ k, lam k = some x) σ1 w0 w' :=
    hrel1.grow hgr.size (fun b hb hnp => hsame b hb (fun e' => by
      rcases hwh b e' with h1 | h1
      · exact hnp (.inr (hb1 b h1))
      · omega)) hbel (fun b hb => ⟨by have := (h.rel.pr b hb).1; have := hgr.size; omega, .inl (.inl hb)⟩)
  -- the new row
  have hsome : ∃ gg cap cur, v' = .slice (some ⟨gg, 0, none⟩) (n + srows.length) cap ∧ base ≤ gg ∧ w'.heap[gg]? = some (.cells cur e (0, 0)) ∧ n + srows.length ≤ cap ∧ cap ≤ maxLen ∧ cur.size = cap * i.size ∧ cur.toList.take ((n + srows.length) * i.size) = xs ++ news := by
    rcases hown'.2 with ⟨rfl, h0⟩ | hh
    · exact absurd (List.eq_nil_of_length_eq_zero (show srows.length = 0 by omega)) hne
    · exact hh
  obtain ⟨gg, cap, cur, rfl, hbg, hheap, hnc, hcm, hcur, htake⟩ := hsome
  have hwh' : b0 gg ∨ w.heap.size ≤ gg := by
    rcases hwh gg rfl with h1 | h1
    · exact .inl (hb1 gg h1)
    · exact .inr h1
  have hpr : ¬ (Pr gg ∨ ∃ k, lam k = some gg) := by
    rcases hwh' with h1 | h1
    · exact (hb3 gg h1).2
    · intro hp2; have := (h.rel.pr gg hp2).1; omega
  have him : ∀ o, g.im gg o = none := by
    rcases hwh' with h1 | h1
    · exact (hb3 gg h1).1
    · intro o
      cases hi' : g.im gg o with
      | none => rfl
      | some v => have := h.rel.im_lt hi'; omega
  have hxl : xs.length = n * i.size := hown.1
  have hcl2 : (cs ++ newCells srows).length = (n + srows.length) * i.size := by
    rw [List.length_append, hcl, newCells, List.length_map, flat_length srows hss, Nat.add_mul]
  have hvrs : VRs g (cs ++ newCells srows) (xs ++ news) := by
    refine hvr.append (VRs.of_idx _ _ (by rw [hnl, newCells, List.length_map, flat_length srows hss]) (fun q c v hc hv => ?_))
    rw [newCells, List.getElem?_map, Option.map_eq_some_iff] at hc
    obtain ⟨x, hx, rfl⟩ := hc
    obtain ⟨v2, hv2, hr2⟩ := hnr q x hx
    rw [hv] at hv2; cases hv2
    exact .d hr2
  have hcok2 : cellsOk (cs ++ newCells srows) = true := by
    simp only [cellsOk_append, hcok, Bool.true_and, newCells]
    exact cellsOk_map _
  have hle := Gh.share_le (g := g) (i := j) (b := gg) (rt := some (cap * i.size, e)) hj
  have hrel3 := hrel2.share' (i := j) (b := gg) (rt := some (cap * i.size, e)) hj hbg (fun q hq' hm => ?_) him (fun t2 v2 e2 s2 ht2 hm2 hvb => ?_) (cs := cs ++ newCells srows) hheap (by rw [hcl2, hcur]; exact Nat.mul_le_mul_right _ hnc)
    (fun t ht => by cases ht; exact ⟨hcur, rfl⟩) (by rw [hcl2, htake]; exact hvrs) hcok2 hpr
  · refine ⟨_, g.share j gg (some (cap * i.size, e)), w', j, hrun, hle, ⟨hgr.size, fun b hb => hsame b (h.rel.pr b (.inl hb)).1 (fun e' => by simp only [Value.ownBlock, Option.some.injEq] at e'; exact hpr (e' ▸ .inl hb))⟩, hblk,
      .ms (by simp [Gh.share]) (by simp [Gh.share]) hnc hcm, ?_⟩
    exact h.step hle (fun k b hb => hsame b (h.loc_lt hb) (fun e' => by simp only [Value.ownBlock, Option.some.injEq] at e'; exact hpr (.inr ⟨k, e' ▸ hb⟩))) hrel3
  · rcases hwh' with h1 | h1
    · cases hc : σ1.blk q with
      | none => exact hq' hc
      | some c =>
        obtain ⟨b2, hb2', ho2⟩ := hrel1.shr q c hc
        rw [hm] at hb2'; cases hb2'
        exact ho2.pr (.inr h1)
    · cases hc : σ1.blk q with
      | none => exact hq' hc
      | some c => have := hrel1.shr_lt hc hm; omega
  · obtain ⟨v3, e3, s3, n3, xs3, hm3, hown3, hrest3⟩ := (hrel1.tok t2 ht2).row
    rw [hm2] at hm3; cases hm3
    rcases hwh' with h1 | h1
    · exact (hrest3 gg hvb).2.1 (.inr h1)
    · have := (hown3.lt gg hvb).2; omega
def trnA (σ : Heap) : AV → AV → Option (Nat × Nat × Nat × List AV × Heap)
  | .ms i n s e, h => (natA h).bind fun k => (σ.blk i).bind fun cs => if k ≤ n ∧ cs.length = n * s then some (k, s, e, cs.take (k * s), σ.delBlk i) else none
  | _, _ => none
theorem trn_sound {t e0 : TypeId} (ht : P.underlying t = some (.slice e0)) {sz : Nat} (hsz : szT P e0 = some sz) (h : FRel base g lam Pr N F L σ a w0 w) {p q : AV} {pvl qvl : Value} (hp : SV g lam p pvl) (hq : SV g lam q qvl)
    {k s e : Nat} {cs : List AV} {σ1 : Heap} (hv : trnA σ p q = some (k, s, e, cs, σ1)) :
    ∃ x g' j, (Instr.sliceAt t pvl none (some qvl) none).run P w = .ok x w ∧ g.le g' ∧ σ.blk j = none ∧ VR g' (.ms j k s e) x ∧ FRel base g' lam Pr N F L (σ1.setBlk j cs) a w0 w := by
  obtain ⟨j, hj, htau, hblk, htok⟩ := h.rel.fresh
  unfold trnA at hv
  split at hv
  case h_2 => cases hv
  rename_i i n s0 e1
  simp only [Option.bind_eq_some_iff] at hv
  obtain ⟨k0, hk, cs0, hcs0, hv⟩ := hv
  split at hv
  case isFalse => cases hv
  rename_i hcond
  cases hv
  obtain ⟨kk, rfl⟩ := natA_sound hk hq
  cases hp with
  | @ms _ _ _ _ b cap hm hr hn hmx =>
    obtain ⟨b', hb', ho⟩ := h.rel.shr i cs0 hcs0
    rw [hm] at hb'; cases hb'
    obtain ⟨vs, ty', hv, hl, hrt, hvr⟩ := ho.row
    have hrt' := hrt _ hr
    have hkn : k * s ≤ n * s := Nat.mul_le_mul_right _ hcond.1
    have hrun : (Instr.sliceAt t (.slice (some ⟨b, 0, none⟩) n cap) none (some (.int kk k)) none).run P w = .ok (.slice (some ⟨b, 0, none⟩) k cap) w := by
      have hb1 : (Instr.sliceBounds true n cap none (some (.int kk k)) none).run P w = .ok (0, k, cap) w := by
        simp [Instr.sliceBounds, bound_ok (Nat.le_trans hcond.1 hn)]
      simp [Instr.sliceAt, Instr.slice, run_under ht, hb1, run_size hsz, Addr.add_lit]
    have hrel1 := h.rel.hide hcs0 hm
    have hrel2 : Rel base g (fun x => Pr x ∨ ∃ k, lam k = some x) (σ.delBlk i) w0 w :=
      hrel1.grow (Nat.le_refl _) (fun _ _ _ => rfl) (Below.refl _ _) (fun b hb => ⟨(h.rel.pr b hb).1, .inl (.inl hb)⟩)
    have hle := Gh.share_le (g := g) (i := j) (b := b) (rt := some (cap * s, e)) hj
    have hlen : (cs0.take (k * s)).length = k * s := by simp; omega
    have hrel3 := hrel2.share' (i := j) (b := b) (rt := some (cap * s, e)) hj ho.low (fun q hq' hm' => ?_) ho.im (fun t2 v2 e2 s2 ht2 hm2 hvb => ?_) (cs := cs0.take (k * s)) hv (by omega) (fun t ht => by cases ht; exact hrt')
      (by rw [hlen]; have := hvr.take (k * s); rwa [List.take_take, Nat.min_eq_left (by omega)] at this) (cellsOk_take _ ho.ok) ho.pr
    · exact ⟨_, g.share j b (some (cap * s, e)), j, hrun, hle, hblk, .ms (by simp [Gh.share]) (by simp [Gh.share]) (Nat.le_trans hcond.1 hn) hmx, h.step hle (fun _ _ _ => rfl) hrel3⟩
    · cases hc : (σ.delBlk i).blk q with
      | none => exact hq' hc
      | some c =>
        obtain ⟨b2, hb2', ho2⟩ := hrel1.shr q c hc
        rw [hm'] at hb2'; cases hb2'
        exact ho2.pr (.inr rfl)
    · obtain ⟨v3, e3, s3, n3, xs3, hm3, hown3, hrest3⟩ := (hrel1.tok t2 ht2).row
      rw [hm2] at hm3; cases hm3
      exact (hrest3 b hvb).2.1 (.inr rfl)
end Go.Ab
