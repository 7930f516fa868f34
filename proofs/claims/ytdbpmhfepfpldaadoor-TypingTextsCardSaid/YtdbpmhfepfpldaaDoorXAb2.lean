/- How the relation between an abstract state and a world is carried over the steps of a run: new blocks, stores, appends. Conditions: none. -/
import Derived.Test.YtdbpmhfepfpldaaDoorXAb1
set_option linter.unusedSimpArgs false
set_option linter.unusedVariables false
namespace Go.Ab
open Go.RowKit

variable {base N : Nat} {g : Gh} {Pr : Nat → Prop} {σ : Heap} {w0 w w' : World} {lam : Nat → Option Nat} {F : Fm} {L : Lm} {a : Act}

theorem Rel.im_lt (h : Rel base g Pr σ w0 w) {b o : Nat} {v : Value} (hi : g.im b o = some v) : b < w.heap.size :=
  World.block_lt_of_cell? w ⟨b, o, none⟩ (h.im b o v hi)

theorem Rel.shr_lt (h : Rel base g Pr σ w0 w) {i : Nat} {cs : List AV} (hi : σ.blk i = some cs) {b : Nat} (hb : g.mu i = some b) : b < w.heap.size := by
  obtain ⟨b', hb', hs⟩ := h.shr i cs hi
  rw [hb'] at hb; cases hb
  obtain ⟨vs, ty, hv, _, _, _⟩ := hs.row
  exact (Array.getElem?_eq_some_iff.1 hv).1

theorem ownsRow_same {e size n : Nat} {v : Value} {xs : List Value} (h : w.ownsRow base e size v n xs) (hb : ∀ b, v.ownBlock = some b → w'.heap[b]? = w.heap[b]?) : w'.ownsRow base e size v n xs := by
  refine ⟨h.1, ?_⟩
  rcases h.2 with hn | ⟨gg, cap, cur, rfl, hbase, hgg, rest⟩
  · exact .inl hn
  · exact .inr ⟨gg, cap, cur, rfl, hbase, by rw [hb gg rfl]; exact hgg, rest⟩

/-- Blocks that nobody but this frame (or nobody at all) knows may change; others may come. -/
theorem Rel.grow (h : Rel base g Pr σ w0 w) (hsz : w.heap.size ≤ w'.heap.size) (hb : ∀ b, b < w.heap.size → ¬ Pr b → w'.heap[b]? = w.heap[b]?)
    (hbel : Below base w w') {Pr' : Nat → Prop} (hpr : ∀ b, Pr' b → b < w'.heap.size ∧ (Pr b ∨ w.heap.size ≤ b)) : Rel base g Pr' σ w0 w' := by
  have him : ∀ b o v, g.im b o = some v → ¬ Pr b := fun b o v hi hp => by rw [(h.pr b hp).2 o] at hi; cases hi
  refine ⟨fun b o v hi => ?_, fun i cs hi => ?_, h.inj, fun t ht => ?_, fun b hp => ?_, h.bel.trans hbel, Nat.le_trans h.bs hsz, h.fin, h.st⟩
  · rw [World.cell?_of_block (w := w) (hb b (h.im_lt hi) (him b o v hi))]; exact h.im b o v hi
  · obtain ⟨b, hm, ho⟩ := h.shr i cs hi
    obtain ⟨vs, ty, hv, hl, ht, hr⟩ := ho.row
    have hlt : b < w.heap.size := (Array.getElem?_eq_some_iff.1 hv).1
    refine ⟨b, hm, ho.ok, ⟨vs, ty, by rw [hb b hlt ho.pr]; exact hv, hl, ht, hr⟩, ho.low, ho.im, fun hp => ?_⟩
    rcases (hpr b hp).2 with hp | hp
    · exact ho.pr hp
    · omega
  · obtain ⟨v, e, size, n, xs, hm, hown, hrest⟩ := (h.tok t ht).row
    refine ⟨v, e, size, n, xs, hm, ownsRow_same hown fun b hvb => hb b (hown.lt b hvb).2 (hrest b hvb).2.1, fun b hvb => ?_⟩
    obtain ⟨h1, h2, h3, h4⟩ := hrest b hvb
    refine ⟨h1, fun hp => ?_, h3, h4⟩
    rcases (hpr b hp).2 with hp | hp
    · exact h2 hp
    · have := (hown.lt b hvb).2; omega
  · refine ⟨(hpr b hp).1, fun o => ?_⟩
    rcases (hpr b hp).2 with hp | hp
    · exact (h.pr b hp).2 o
    · cases hi : g.im b o with
      | none => rfl
      | some v => have := h.im_lt hi; omega

/-- A new block whose first n cells are settled at once. -/
def Gh.settle (g : Gh) (b n : Nat) (vs : Array Value) : Gh :=
  { g with im := fun b' o => if b' = b then (if o < n then vs[o]? else none) else g.im b' o }

theorem Rel.settle_le (h : Rel base g Pr σ w0 w) (b n : Nat) (vs : Array Value) (hb : w.heap.size ≤ b) : g.le (g.settle b n vs) := by
  refine ⟨fun b' o v hi => ?_, fun _ _ h => h, fun _ _ h => h, fun _ _ h => h⟩
  have : b' ≠ b := fun e => by have := h.im_lt hi; omega
  simp [Gh.settle, this, hi]

theorem Rel.settle (h : Rel base g Pr σ w0 w) {b n : Nat} {vs : Array Value} (hb : w.heap.size ≤ b) (h' : Rel base g Pr σ w0 w') (hc : ∀ o, w'.cell? ⟨b, o, none⟩ = vs[o]?) : Rel base (g.settle b n vs) Pr σ w0 w' := by
  have hle := h.settle_le b n vs hb
  refine ⟨fun b' o v hi => ?_, fun i cs hi => ?_, h.inj, fun t ht => ?_, fun b' hp => ?_, h'.bel, h'.bs, h.fin, h.st.mono hle rfl rfl⟩
  · by_cases e : b' = b
    · subst e
      simp only [Gh.settle, if_true] at hi
      split at hi
      · rw [hc]; exact hi
      · cases hi
    · simp only [Gh.settle, if_neg e] at hi
      exact h'.im b' o v hi
  · obtain ⟨b', hm, ho⟩ := h'.shr i cs hi
    have hlt : b' < w.heap.size := h.shr_lt hi hm
    have hne : b' ≠ b := by omega
    obtain ⟨vs', ty, hv, hl, ht, hr⟩ := ho.row
    exact ⟨b', hm, ho.ok, ⟨vs', ty, hv, hl, ht, hr.mono hle⟩, ho.low, fun o => by simp [Gh.settle, hne, ho.im o], ho.pr⟩
  · obtain ⟨v, e, size, n', xs, hm, hown, hrest⟩ := (h'.tok t ht).row
    refine ⟨v, e, size, n', xs, hm, hown, fun b' hvb => ?_⟩
    obtain ⟨h1, h2, h3, h4⟩ := hrest b' hvb
    obtain ⟨v2, e2, size2, n2, xs2, hm2, hown2, _⟩ := (h.tok t ht).row
    rw [hm] at hm2; cases hm2
    have hne : b' ≠ b := by have := (hown2.lt b' hvb).2; omega
    exact ⟨fun o ho => by simp [Gh.settle, hne, h1 o ho], h2, h3, h4⟩
  · have hne : b' ≠ b := fun e => by have := (h.pr b' hp).1; omega
    exact ⟨(h'.pr b' hp).1, fun o => by simp [Gh.settle, hne, (h'.pr b' hp).2 o]⟩

def Heap.setBlk (σ : Heap) (i : Nat) (cs : List AV) : Heap := { σ with blk := fun j => if j = i then some cs else σ.blk j }
def Heap.delBlk (σ : Heap) (i : Nat) : Heap := { σ with blk := fun j => if j = i then none else σ.blk j }
def Heap.addTok (σ : Heap) (t : Nat) : Heap := { σ with tok := fun j => if j = t then true else σ.tok j }
def Heap.delTok (σ : Heap) (t : Nat) : Heap := { σ with tok := fun j => if j = t then false else σ.tok j }

def Heap.setBt (σ : Heap) (i : Nat) (x : Nat × TypeId) : Heap := { σ with bt := fun j => if j = i then some x else σ.bt j }

/-- Less is known. -/
structure Heap.le (σ' σ : Heap) : Prop where
  blk : ∀ i cs, σ'.blk i = some cs → σ.blk i = some cs
  tok : ∀ t, σ'.tok t = true → σ.tok t = true
  gt : σ'.gt = σ.gt
  bt : ∀ i x, σ'.bt i = some x → σ.bt i = some x

theorem Heap.le_refl (σ : Heap) : σ.le σ := ⟨fun _ _ h => h, fun _ h => h, rfl, fun _ _ h => h⟩

theorem Rel.less (h : Rel base g Pr σ w0 w) {σ' : Heap} (hl : σ'.le σ) : Rel base g Pr σ' w0 w := by
  have hn : ∀ i, σ'.blk i ≠ none → σ.blk i ≠ none := fun i hi e => by
    cases hc : σ'.blk i with
    | none => exact hi hc
    | some cs => rw [hl.blk i cs hc] at e; cases e
  refine ⟨h.im, fun i cs hi => h.shr i cs (hl.blk i cs hi), fun i j b hi hj => h.inj i j b (hn i hi) (hn j hj), fun t ht => ?_, h.pr, h.bel, h.bs, h.fin, ⟨fun b vs hv => h.st.1 b vs (by rw [← hl.gt]; exact hv), fun i x hx => h.st.2 i x (hl.bt i x hx)⟩⟩
  obtain ⟨v, e, size, n, xs, hm, hown, hrest⟩ := (h.tok t (hl.tok t ht)).row
  refine ⟨v, e, size, n, xs, hm, hown, fun b hvb => ?_⟩
  obtain ⟨h1, h2, h3, h4⟩ := hrest b hvb
  exact ⟨h1, h2, fun i hi => h3 i (hn i hi), fun t' v' e' s' hne ht' => h4 t' v' e' s' hne (hl.tok t' ht')⟩

theorem Rel.setBt (h : Rel base g Pr σ w0 w) {i : Nat} {x : Nat × TypeId} (hx : g.rm i = some x) : Rel base g Pr (σ.setBt i x) w0 w :=
  ⟨h.im, h.shr, h.inj, fun t ht => ⟨(h.tok t ht).row⟩, h.pr, h.bel, h.bs, h.fin, h.st.1, fun j y hy => by
    by_cases e : j = i
    · subst e; simp only [Heap.setBt, if_true, Option.some.injEq] at hy; rw [← hy]; exact hx
    · simp only [Heap.setBt, if_neg e] at hy; exact h.st.2 j y hy⟩

theorem Rel.fresh (h : Rel base g Pr σ w0 w) : ∃ i, (g.mu i = none ∧ g.rm i = none) ∧ g.tau i = none ∧ σ.blk i = none ∧ σ.tok i = false := by
  obtain ⟨n, hn⟩ := h.fin
  refine ⟨n, ⟨(hn n (Nat.le_refl _)).1, (hn n (Nat.le_refl _)).2.2⟩, (hn n (Nat.le_refl _)).2.1, ?_, ?_⟩
  · cases hc : σ.blk n with
    | none => rfl
    | some cs => obtain ⟨b, hb, _⟩ := h.shr n cs hc; rw [(hn n (Nat.le_refl _)).1] at hb; cases hb
  · cases hc : σ.tok n with
    | false => rfl
    | true => obtain ⟨v, e, s, m, xs, hm, _⟩ := (h.tok n hc).row; rw [(hn n (Nat.le_refl _)).2.1] at hm; cases hm

def Gh.share (g : Gh) (i b : Nat) (rt : Option (Nat × TypeId)) : Gh := { g with mu := fun j => if j = i then some b else g.mu j, rm := fun j => if j = i then rt else g.rm j }

theorem Gh.share_le {i b : Nat} {rt : Option (Nat × TypeId)} (hi : g.mu i = none ∧ g.rm i = none) : g.le (g.share i b rt) :=
  ⟨fun _ _ _ h => h, fun j c h => by have : j ≠ i := fun e => by rw [e, hi.1] at h; cases h
                                     simp [Gh.share, this, h], fun _ _ h => h,
   fun j c h => by have : j ≠ i := fun e => by rw [e, hi.2] at h; cases h
                   simp [Gh.share, this, h]⟩

/-- A block that is nobody's becomes shared. -/
theorem Rel.share' (h : Rel base g Pr σ w0 w) {i b : Nat} {rt : Option (Nat × TypeId)} (hi : g.mu i = none ∧ g.rm i = none) (hb : base ≤ b) (hno : ∀ j, σ.blk j ≠ none → g.mu j ≠ some b) (him : ∀ o, g.im b o = none)
    (htk : ∀ t v e s, σ.tok t = true → g.tau t = some (v, e, s) → v.ownBlock ≠ some b) {cs : List AV} {vs : Array Value} {ty : TypeId}
    (hv : w.heap[b]? = some (.cells vs ty (0, 0))) (hl : cs.length ≤ vs.size) (hrt : ∀ t, rt = some t → vs.size = t.1 ∧ ty = t.2) (hr : VRs g cs (vs.toList.take cs.length)) (hok : cellsOk cs = true) (hpr : ¬ Pr b) :
    Rel base (g.share i b rt) Pr (σ.setBlk i cs) w0 w := by
  have hle := Gh.share_le (g := g) (i := i) (b := b) (rt := rt) hi
  have hne : ∀ j, σ.blk j ≠ none → j ≠ i := fun j hj e => by
    subst e
    cases hc : σ.blk j with
    | none => exact hj hc
    | some cs => obtain ⟨b, hb, _⟩ := h.shr j cs hc; rw [hi.1] at hb; cases hb
  refine ⟨h.im, fun j cs' hj => ?_, fun j k b' hj hk hm hm' => ?_, fun t ht => ?_, h.pr, h.bel, h.bs, ?_, h.st.mono hle rfl rfl⟩
  · by_cases e : j = i
    · subst e
      simp only [Heap.setBlk, if_true] at hj; cases hj
      exact ⟨b, by simp [Gh.share], hok, ⟨vs, ty, hv, hl, by simpa [Gh.share] using hrt, hr.mono hle⟩, hb, him, hpr⟩
    · simp only [Heap.setBlk, if_neg e] at hj
      obtain ⟨b', hm, ho⟩ := h.shr j cs' hj
      obtain ⟨vs', ty', hv', hl', ht', hr'⟩ := ho.row
      exact ⟨b', hle.mu _ _ hm, ho.ok, ⟨vs', ty', hv', hl', by simpa [Gh.share, e] using ht', hr'.mono hle⟩, ho.low, ho.im, ho.pr⟩
  · by_cases e : j = i <;> by_cases e' : k = i
    · omega
    · simp only [Heap.setBlk, if_neg e'] at hk
      simp only [Gh.share, if_neg e', if_pos e] at hm hm'
      cases hm; exact absurd hm' (hno k hk)
    · simp only [Heap.setBlk, if_neg e] at hj
      simp only [Gh.share, if_neg e, if_pos e'] at hm hm'
      cases hm'; exact absurd hm (hno j hj)
    · simp only [Heap.setBlk, if_neg e, if_neg e'] at hj hk
      simp only [Gh.share, if_neg e, if_neg e'] at hm hm'
      exact h.inj j k b' hj hk hm hm'
  · obtain ⟨v, e, size, n, xs, hm, hown, hrest⟩ := (h.tok t ht).row
    refine ⟨v, e, size, n, xs, hm, hown, fun b' hvb => ?_⟩
    obtain ⟨h1, h2, h3, h4⟩ := hrest b' hvb
    refine ⟨h1, h2, fun j hj => ?_, h4⟩
    by_cases e' : j = i
    · subst e'
      have : b ≠ b' := fun eb => htk t v e size ht hm (eb ▸ hvb)
      simp [Gh.share]; exact this
    · simp only [Heap.setBlk, if_neg e'] at hj
      simp only [Gh.share, if_neg e']
      exact h3 j hj
  · obtain ⟨n, hn⟩ := h.fin
    refine ⟨max n (i + 1), fun j hj => ⟨?_, (hn j (by omega)).2.1, ?_⟩⟩
    · have : j ≠ i := by omega
      simp [Gh.share, this, (hn j (by omega)).1]
    · have : j ≠ i := by omega
      simp [Gh.share, this, (hn j (by omega)).2.2]

/-- A new shared block. -/
theorem Rel.share (h : Rel base g Pr σ w0 w) {i b : Nat} {rt : Option (Nat × TypeId)} (hi : g.mu i = none ∧ g.rm i = none) (hb : w.heap.size ≤ b) (h' : Rel base g Pr σ w0 w') {cs : List AV} {vs : Array Value} {ty : TypeId}
    (hv : w'.heap[b]? = some (.cells vs ty (0, 0))) (hrt : ∀ t, rt = some t → vs.size = t.1 ∧ ty = t.2) (hr : VRs g cs vs.toList) (hok : cellsOk cs = true) (hpr : ¬ Pr b) : Rel base (g.share i b rt) Pr (σ.setBlk i cs) w0 w' := by
  have hlen := hr.length
  refine h'.share' hi (by have := h.bs; omega) (fun j hj hm => ?_) (fun o => ?_) (fun t v e s ht hm hvb => ?_) hv (by simp at hlen; omega) hrt (by rw [← hlen, List.take_length]; exact hr) hok hpr
  · cases hc : σ.blk j with
    | none => exact hj hc
    | some cs => have := h.shr_lt hc hm; omega
  · cases hi' : g.im b o with
    | none => rfl
    | some v => have := h.im_lt hi'; omega
  · obtain ⟨v2, e2, size2, n2, xs2, hm2, hown2, _⟩ := (h.tok t ht).row
    rw [hm] at hm2; cases hm2
    have := (hown2.lt b hvb).2; omega

/-- A shared block is written. -/
theorem Rel.write (h : Rel base g Pr σ w0 w) {i b : Nat} {cs cs' : List AV} (hi : σ.blk i = some cs) (hm : g.mu i = some b) (hsz : w.heap.size ≤ w'.heap.size)
    (hb : ∀ k, k < w.heap.size → k ≠ b → w'.heap[k]? = w.heap[k]?) (hbel : Below base w w') {vs : Array Value} {ty : TypeId}
    (hv : w'.heap[b]? = some (.cells vs ty (0, 0))) (hl : cs'.length ≤ vs.size) (hrt : ∀ t, g.rm i = some t → vs.size = t.1 ∧ ty = t.2) (hr : VRs g cs' (vs.toList.take cs'.length)) (hok : cellsOk cs' = true) : Rel base g Pr (σ.setBlk i cs') w0 w' := by
  obtain ⟨b0, hm0, ho0⟩ := h.shr i cs hi
  rw [hm] at hm0; cases hm0
  have hpr : ∀ k, Pr k → k ≠ b := fun k hk e => ho0.pr (e ▸ hk)
  have hn : ∀ j, (σ.setBlk i cs').blk j ≠ none → σ.blk j ≠ none := fun j hj e => by
    by_cases e' : j = i
    · subst e'; rw [hi] at e; cases e
    · simp only [Heap.setBlk, if_neg e'] at hj; exact hj e
  refine ⟨fun b' o v hb' => ?_, fun j cs2 hj => ?_, fun j k b' hj hk => h.inj j k b' (hn j hj) (hn k hk), fun t ht => ?_, fun k hk => ?_, h.bel.trans hbel, Nat.le_trans h.bs hsz, h.fin, h.st⟩
  · have hne : b' ≠ b := fun e => by subst e; rw [ho0.im o] at hb'; cases hb'
    rw [World.cell?_of_block (w := w) (hb b' (h.im_lt hb') hne)]; exact h.im b' o v hb'
  · by_cases e : j = i
    · subst e
      simp only [Heap.setBlk, if_true] at hj; cases hj
      exact ⟨b, hm, hok, ⟨vs, ty, hv, hl, hrt, hr⟩, ho0.low, ho0.im, ho0.pr⟩
    · simp only [Heap.setBlk, if_neg e] at hj
      obtain ⟨b', hm', ho⟩ := h.shr j cs2 hj
      obtain ⟨vs', ty', hv', hl', ht', hr'⟩ := ho.row
      have hne : b' ≠ b := fun e' => e (h.inj j i b (by rw [hj]; simp) (by rw [hi]; simp) (e' ▸ hm') hm)
      exact ⟨b', hm', ho.ok, ⟨vs', ty', by rw [hb b' (h.shr_lt hj hm') hne]; exact hv', hl', ht', hr'⟩, ho.low, ho.im, ho.pr⟩
  · obtain ⟨v, e, size, n, xs, hmt, hown, hrest⟩ := (h.tok t ht).row
    refine ⟨v, e, size, n, xs, hmt, ownsRow_same hown fun b' hvb => ?_, fun b' hvb => ?_⟩
    · exact hb b' (hown.lt b' hvb).2 fun e' => (hrest b' hvb).2.2.1 i (by rw [hi]; simp) (e' ▸ hm)
    · obtain ⟨h1, h2, h3, h4⟩ := hrest b' hvb
      exact ⟨h1, h2, fun j hj => h3 j (hn j hj), h4⟩
  · exact ⟨by have := (h.pr k hk).1; omega, (h.pr k hk).2⟩

end Go.Ab
