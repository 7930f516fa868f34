/- append to a row of the call's own, with a sharper account of what has changed; and its effect on the relation. Conditions: none. -/
import Derived.Test.YtdbpmhfepfpldaaDoorXAb2
set_option linter.unusedSimpArgs false
set_option linter.unusedVariables false
namespace Go.Ab
open Go.RowKit

section
variable {P : Program} (w : World)

theorem run_append_own2 (base : Nat) (t ty e : TypeId) (i : TypeInfo) (z : Value) (size bytes : Nat) (ht : P.underlying t = some (.slice e)) (hi : P.info? e = some i) (hz : i.zero = some z)
    (hsize : i.size = size) (hby : i.bytes = bytes) (hzs : z.cells.size = size)
    (v : Value) (n : Nat) (xs : List Value) (hown : w.ownsRow base e size v n xs)
    (a : Addr) (m c : Nat) (news : List Value) (hl : news.length = m * size) (hnews : ∀ j u, news[j]? = some u → w.cell? (a.add j) = some u) (h1 : ∀ u ∈ news, u.oneCell' = true)
    (h63 : n + m ≤ maxLen) (hbytes : (n + m) * bytes ≤ 140737488355328) (hbase : base ≤ w.heap.size) :
    ∃ v' w', (Builtin.append_ #[t, t] ty #[v, .slice (some a) m c]).run P w = .ok v' w' ∧ w'.ownsRow base e size v' (n + m) (xs ++ news) ∧ w.grownBy w' v'.ownBlock ∧
      (∀ k, v'.ownBlock = some k → v.ownBlock = some k ∨ w.heap.size ≤ k) := by
  subst hsize
  subst hby
  have hsmall : n + m ≤ 9223372036854775807 := by simp only [maxLen] at h63; omega
  have hlen : (xs ++ news).length = (n + m) * i.size := by rw [List.length_append, hown.1, hl, Nat.add_mul]
  have grown : ∀ (old : Nat), old < n + m → ∀ (row : Option Nat),
      (w.drew.alloc (.cells (xs.toArray ++ news.toArray ++ Builtin.zeroCells z.cells (grownCap w (n + m) old e - (n + m))) e)).ownsRow base e i.size
        (.slice (some ⟨w.heap.size, 0, none⟩) (n + m) (grownCap w (n + m) old e)) (n + m) (xs ++ news) ∧
      w.grownBy (w.drew.alloc (.cells (xs.toArray ++ news.toArray ++ Builtin.zeroCells z.cells (grownCap w (n + m) old e - (n + m))) e)) row := by
    intro old ho row
    have hge := grownCap_ge w (n + m) old e
    have hcm : grownCap w (n + m) old e ≤ maxLen := grownCap_le_maxLen w (n + m) old e h63
    refine ⟨⟨hlen, .inr ⟨w.heap.size, _, _, rfl, hbase, heap_alloc_new w.drew _, hge, hcm, ?_, ?_⟩⟩, ⟨rfl, rfl, rfl, by simp, fun k hk _ => heap_alloc_old w.drew _ k hk⟩⟩
    · simp only [Array.size_append, List.size_toArray, size_zeroCells, hzs, hown.1, hl, ← Nat.add_mul]
      congr 1
      omega
    · simp only [Array.toList_append, List.append_assoc]
      rw [← List.append_assoc, ← hlen]
      exact List.take_left
  rcases hown.2 with ⟨rfl, rfl⟩ | ⟨g, cap, cur, rfl, hbg, hg, hnc, hcm, hcs, htake⟩
  · have hx : xs = [] := List.eq_nil_of_length_eq_zero (by simpa using hown.1)
    subst hx
    by_cases hm : m = 0
    · subst hm
      have hn : news = [] := List.eq_nil_of_length_eq_zero (by simpa using hl)
      subst hn
      refine ⟨.slice none 0 0, w, ?_, World.ownsRow_nil w base e i.size, ⟨rfl, rfl, rfl, Nat.le_refl _, fun _ _ _ => rfl⟩, by simp [Value.ownBlock]⟩
      simp [Builtin.append_, run_underlying ht, sizeOf, typeInfo, hi, Builtin.lenOf, Builtin.firstCells, loadCells, loadCellsFrom]
    · have hr := run_append_nil (P := P) w t ty e i z ht hi hz a m c news hl hnews (by omega) (by omega) (by have hb := hbytes; simp only [Nat.zero_add] at hb; omega)
      have hgr := grown 0 (by omega) (some w.heap.size)
      simp only [Nat.zero_add, List.nil_append, Array.empty_append] at hgr ⊢
      exact ⟨_, _, hr, hgr.1, hgr.2, fun k hk => .inr (by simp [Value.ownBlock] at hk; omega)⟩
  · by_cases hroom : n + m ≤ cap
    · have hfit : n * i.size + news.length ≤ cur.size := by rw [hl, hcs, ← Nat.add_mul]; exact Nat.mul_le_mul_right _ hroom
      have hr := run_append_room (P := P) w t ty e i ht hi g n cap cur hg a m c news hl hnews h1 hroom hfit
      refine ⟨_, _, hr, ⟨hlen, .inr ⟨g, cap, _, rfl, hbg, setRow_heap w g cur _ e _ hg, hroom, hcm, ?_, ?_⟩⟩, ⟨rfl, rfl, rfl, by simp, fun k _ hk => setRow_other w g k _ (fun e => hk (by simp [Value.ownBlock, e]))⟩, fun k hk => .inl hk⟩
      · simp only [List.size_toArray, List.length_append, List.length_take, List.length_drop, Array.length_toList]
        omega
      · rw [htake, ← hlen]
        exact List.take_left
    · have holds : ∀ j u, xs[j]? = some u → w.cell? ((⟨g, 0, none⟩ : Addr).add j) = some u := hown.cells (g := g) rfl
      have hr := run_append_grow (P := P) w t ty e i z ht hi hz ⟨g, 0, none⟩ n cap xs hown.1 holds a m c news hl hnews (by omega) (by omega) (growslice_fits (by omega) hbytes)
      have hgr := grown cap (by omega) (some w.heap.size)
      exact ⟨_, _, hr, hgr.1, hgr.2, fun k hk => .inr (by simp [Value.ownBlock] at hk; omega)⟩
end

variable {base N : Nat} {g : Gh} {Pr : Nat → Prop} {σ : Heap} {w0 w w' : World} {lam : Nat → Option Nat} {F : Fm} {L : Lm} {a : Act}

/-- The ghost behind an append. -/
def Gh.grow (g : Gh) (v' : Value) (e size t' : Nat) (ys : List Value) : Gh :=
  { im := fun b o => if v'.ownBlock = some b then ys[o]? else g.im b o, mu := g.mu, tau := fun t => if t = t' then some (v', e, size) else g.tau t, rm := g.rm }

/-- What an owner may do with a row: it is nil, or a live token's. -/
def Mine (base : Nat) (g : Gh) (Pr : Nat → Prop) (σ : Heap) (w : World) (e size : Nat) (v : Value) (n : Nat) (xs : List Value) : Prop :=
  w.ownsRow base e size v n xs ∧ ∀ b, v.ownBlock = some b → (∀ o, n * size ≤ o → g.im b o = none) ∧ ¬ Pr b ∧ (∀ i, σ.blk i ≠ none → g.mu i ≠ some b) ∧
      (∀ t' v' e' s', σ.tok t' = true → g.tau t' = some (v', e', s') → v'.ownBlock ≠ some b)

theorem Rel.grow_le (h : Rel base g Pr σ w0 w) {e size n t' : Nat} {v v' : Value} {xs news : List Value} (hmine : Mine base g Pr σ w e size v n xs)
    (hwh : ∀ k, v'.ownBlock = some k → v.ownBlock = some k ∨ w.heap.size ≤ k) (ht' : g.tau t' = none) : g.le (g.grow v' e size t' (xs ++ news)) := by
  refine ⟨fun b o u hu => ?_, fun _ _ h => h, fun t x hx => ?_, fun _ _ h => h⟩
  · simp only [Gh.grow]
    split
    · rename_i hb
      rcases hwh b hb with hvb | hge
      · have hlt : o < n * size := by
          rcases Nat.lt_or_ge o (n * size) with h1 | h1
          · exact h1
          · rw [(hmine.2 b hvb).1 o h1] at hu; cases hu
        have hxl : o < xs.length := by rw [hmine.1.1]; exact hlt
        have hc := hmine.1.cells hvb o xs[o] (by simp [hxl])
        rw [Addr.add_lit, Nat.zero_add, h.im b o u hu] at hc
        cases hc
        simp [List.getElem?_append_left hxl, hxl]
      · have := h.im_lt hu; omega
    · exact hu
  · have : t ≠ t' := fun e => by rw [e, ht'] at hx; cases hx
    simp [Gh.grow, this, hx]

theorem Rel.grew (h : Rel base g Pr σ w0 w) {e size n m t' : Nat} {v v' : Value} {xs news : List Value} (hmine : Mine base g Pr σ w e size v n xs)
    (hown' : w'.ownsRow base e size v' (n + m) (xs ++ news)) (hg : w.grownBy w' v'.ownBlock) (hwh : ∀ k, v'.ownBlock = some k → v.ownBlock = some k ∨ w.heap.size ≤ k) (ht' : g.tau t' = none) :
    Rel base (g.grow v' e size t' (xs ++ news)) Pr (σ.addTok t') w0 w' := by
  have hle := h.grow_le (news := news) hmine hwh ht'
  have hnot : ∀ b, v'.ownBlock = some b → ¬ Pr b ∧ (∀ i, σ.blk i ≠ none → g.mu i ≠ some b) ∧ (∀ t2 v2 e2 s2, σ.tok t2 = true → g.tau t2 = some (v2, e2, s2) → v2.ownBlock ≠ some b) := by
    intro b hb
    rcases hwh b hb with hvb | hge
    · exact (hmine.2 b hvb).2
    · refine ⟨fun hp => ?_, fun i hi hm => ?_, fun t2 v2 e2 s2 ht2 hm2 hb2 => ?_⟩
      · have := (h.pr b hp).1; omega
      · cases hc : σ.blk i with
        | none => exact hi hc
        | some cs => have := h.shr_lt hc hm; omega
      · obtain ⟨v3, e3, s3, n3, xs3, hm3, hown3, _⟩ := (h.tok t2 ht2).row
        rw [hm2] at hm3; cases hm3
        have := (hown3.lt b hb2).2; omega
  have hsame : ∀ b, b < w.heap.size → v'.ownBlock ≠ some b → w'.heap[b]? = w.heap[b]? := fun b hb hne => hg.block b hb (Ne.symm hne)
  have hbel : Below base w w' := ⟨hg.os, hg.tape, hg.output, hg.size, fun k hk => hsame k (by have := h.bs; omega) fun e => by have := (hown'.lt k e).1; omega⟩
  refine ⟨fun b o u hu => ?_, fun i cs hi => ?_, h.inj, fun t ht => ?_, fun b hp => ?_, h.bel.trans hbel, Nat.le_trans h.bs hg.size, ?_, h.st.mono hle rfl rfl⟩
  · simp only [Gh.grow] at hu
    split at hu
    · rename_i hb
      have := hown'.cells hb o u hu
      rwa [Addr.add_lit, Nat.zero_add] at this
    · rename_i hb
      rw [World.cell?_of_block (w := w) (hsame b (h.im_lt hu) hb)]; exact h.im b o u hu
  · have hi : σ.blk i = some cs := hi
    obtain ⟨b, hm, ho⟩ := h.shr i cs hi
    obtain ⟨vs, ty, hv, hl, ht, hr⟩ := ho.row
    have hb : v'.ownBlock ≠ some b := fun e => (hnot b e).2.1 i (by rw [hi]; simp) hm
    refine ⟨b, hm, ho.ok, ⟨vs, ty, by rw [hsame b (h.shr_lt hi hm) hb]; exact hv, hl, ht, hr.mono hle⟩, ho.low, fun o => ?_, ho.pr⟩
    simp [Gh.grow, hb, ho.im o]
  · by_cases e' : t = t'
    · subst e'
      refine ⟨v', e, size, n + m, xs ++ news, by simp [Gh.grow], hown', fun b hb => ⟨fun o ho => ?_, (hnot b hb).1, (hnot b hb).2.1, fun t2 v2 e2 s2 hne ht2 hm2 => ?_⟩⟩
      · simp only [Gh.grow, hb, if_true]
        rw [List.getElem?_eq_none_iff, hown'.1]; exact ho
      · simp only [Heap.addTok, if_neg hne] at ht2
        simp only [Gh.grow, if_neg hne] at hm2
        exact (hnot b hb).2.2 t2 v2 e2 s2 ht2 hm2
    · simp only [Heap.addTok, if_neg e'] at ht
      obtain ⟨v2, e2, s2, n2, xs2, hm2, hown2, hrest⟩ := (h.tok t ht).row
      have hdiff : ∀ b, v2.ownBlock = some b → v'.ownBlock ≠ some b := fun b hb e => (hnot b e).2.2 t v2 e2 s2 ht hm2 hb
      refine ⟨v2, e2, s2, n2, xs2, by simp [Gh.grow, e', hm2], ownsRow_same hown2 fun b hb => hsame b (hown2.lt b hb).2 (hdiff b hb), fun b hb => ?_⟩
      obtain ⟨k1, k2, k3, k4⟩ := hrest b hb
      refine ⟨fun o ho => by simp [Gh.grow, hdiff b hb, k1 o ho], k2, k3, fun t3 v3 e3 s3 hne ht3 hm3 => ?_⟩
      by_cases e3' : t3 = t'
      · subst e3'
        simp only [Gh.grow, if_true] at hm3; cases hm3
        exact hdiff b hb
      · simp only [Heap.addTok, if_neg e3'] at ht3
        simp only [Gh.grow, if_neg e3'] at hm3
        exact k4 t3 v3 e3 s3 hne ht3 hm3
  · have hb : v'.ownBlock ≠ some b := fun e => (hnot b e).1 hp
    exact ⟨Nat.lt_of_lt_of_le (h.pr b hp).1 hg.size, fun o => by simp [Gh.grow, hb, (h.pr b hp).2 o]⟩
  · obtain ⟨k, hk⟩ := h.fin
    refine ⟨max k (t' + 1), fun i hi => ⟨(hk i (by omega)).1, ?_, (hk i (by omega)).2.2⟩⟩
    have : i ≠ t' := by omega
    simp [Gh.grow, this, (hk i (by omega)).2.1]

/-- A live token's row is mine when the token is given up. -/
theorem Rel.mine (h : Rel base g Pr σ w0 w) {t e size : Nat} {v : Value} (ht : σ.tok t = true) (hm : g.tau t = some (v, e, size)) :
    ∃ n xs, Mine base g Pr (σ.delTok t) w e size v n xs := by
  obtain ⟨v2, e2, s2, n2, xs2, hm2, hown2, hrest⟩ := (h.tok t ht).row
  rw [hm] at hm2; cases hm2
  refine ⟨n2, xs2, hown2, fun b hb => ?_⟩
  obtain ⟨k1, k2, k3, k4⟩ := hrest b hb
  refine ⟨k1, k2, k3, fun t' v' e' s' ht' => ?_⟩
  have hne : t' ≠ t := fun e => by subst e; simp [Heap.delTok] at ht'
  simp only [Heap.delTok, if_neg hne] at ht'
  exact k4 t' v' e' s' hne ht'

theorem Heap.delTok_le (σ : Heap) (t : Nat) : (σ.delTok t).le σ := ⟨fun _ _ h => h, fun t' h => by
  by_cases e : t' = t
  · subst e; simp [Heap.delTok] at h
  · simpa [Heap.delTok, e] using h, rfl, fun _ _ h => h⟩

theorem Mine.nil (base : Nat) (g : Gh) (Pr : Nat → Prop) (σ : Heap) (w : World) (e size : Nat) : Mine base g Pr σ w e size (.slice none 0 0) 0 [] :=
  ⟨World.ownsRow_nil w base e size, fun b hb => by simp [Value.ownBlock] at hb⟩

end Go.Ab
