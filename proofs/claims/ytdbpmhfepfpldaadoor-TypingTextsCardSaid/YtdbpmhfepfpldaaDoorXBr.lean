/- Contracts of library functions, carried over to abstract states. Conditions: none. -/
import Derived.Test.YtdbpmhfepfpldaaDoorXWk
import Derived.Shelf.SlSortCmp.WholeK
import Derived.Lib.ItoaLen
import Derived.Lib.LaidTab
set_option linter.unusedSimpArgs false
set_option linter.unusedVariables false
namespace Go.Ab
open Go.RowKit Go.Sort
variable {P : Program} {base N : Nat} {g g' : Gh} {Pr : Nat → Prop} {σ σ' : Heap} {w0 w w' : World}

theorem Rel.grown (h : Rel base g Pr σ w0 w) (k : Nat) (os : Array Obj) : Rel base g Pr σ w0 (Sort.grow (w.drewN k) os) ∧ KP Pr w (Sort.grow (w.drewN k) os) := by
  have hsz : (Sort.grow (w.drewN k) os).heap.size = w.heap.size + os.size := by rw [size_grow]; rfl
  have hb : ∀ b, b < w.heap.size → (Sort.grow (w.drewN k) os).heap[b]? = w.heap[b]? := fun b hb => by
    show (w.heap ++ os)[b]? = w.heap[b]?
    rw [Array.getElem?_append, if_pos hb]
  refine ⟨h.grow (by omega) (fun b hlt _ => hb b hlt) ⟨rfl, rfl, rfl, by omega, fun b hlt => hb b (Nat.lt_of_lt_of_le hlt h.bs)⟩ (fun b hp => ⟨by have := (h.pr b hp).1; omega, .inl hp⟩), by omega, fun b hp => hb b (h.pr b hp).1⟩

theorem Rel.tab (h : Rel base g Pr σ w0 w) {name : String} {b : Nat} {vs : Array Value} (hg : P.globalNamed name = some b) (hb : σ.gt b = some vs) : w.var? P name = some vs := by
  obtain ⟨hlt, ty, fr, hc⟩ := h.st.1 b vs hb
  unfold World.var?
  rw [hg, Option.bind_some, h.bel.block b hlt, hc]

/-- A call that only lays blocks and draws. -/
theorem ACalls.of_grow {f : FuncId} {args : List AV} {x : DV}
    (h : ∀ (base : Nat) (g : Gh) (Pr : Nat → Prop) (w0 w : World) (vs : List Value), Rel base g Pr σ w0 w → VRs g args vs → ∃ v, RD g.im x v ∧ Calls P f vs.toArray w fun e w' => e = .returned v ∧ ∃ k os, w' = Sort.grow (w.drewN k) os) :
    ACalls P f args σ (fun v σ' => v = .d x ∧ σ' = σ) := by
  intro base g Pr w0 w vs hr hv
  obtain ⟨v, hx, hc⟩ := h base g Pr w0 w vs hr hv
  refine hc.mono ?_
  rintro e w' ⟨rfl, k, os, rfl⟩
  obtain ⟨h1, h2⟩ := hr.grown k os
  exact ⟨v, .d x, g, σ, rfl, .d hx, h1, Gh.le_refl g, h2, rfl, rfl⟩

theorem VRs.one {c : AV} {vs : List Value} (h : VRs g [c] vs) : ∃ v, vs = [v] ∧ VR g c v := by
  cases h with | cons h hs => cases hs; exact ⟨_, rfl, h⟩
theorem VRs.two {c d : AV} {vs : List Value} (h : VRs g [c, d] vs) : ∃ v u, vs = [v, u] ∧ VR g c v ∧ VR g d u := by
  cases h with | cons h hs => obtain ⟨u, rfl, hu⟩ := hs.one; exact ⟨_, _, rfl, h, hu⟩
theorem VR.int_inv {k : IntKind} {n : Int} {v : Value} (h : VR g (.d (.int k n)) v) : v = .int k n ∧ k.has n := by
  cases h with | d h => cases h with | int h => exact ⟨rfl, h⟩

/-! ### The builder's check -/

theorem Rel.blk2 (h : Rel base g Pr σ w0 w) {i : Nat} {a s : AV} {ty : TypeId} (hb : σ.blk i = some [a, s]) (ht : σ.bt i = some (2, ty)) :
    ∃ b x y, g.mu i = some b ∧ w.heap[b]? = some (.cells #[x, y] ty (0, 0)) ∧ VR g a x ∧ VR g s y ∧ base ≤ b ∧ ¬ Pr b ∧ cellsOk [a, s] = true := by
  obtain ⟨b, hm, hs⟩ := h.shr i _ hb
  obtain ⟨vs, ty', hh, hl, hrt, hv⟩ := hs.row
  obtain ⟨h1, h2⟩ := hrt (2, ty) (h.st.2 i _ ht)
  simp only at h1 h2
  subst h2
  obtain ⟨x, y, hxy, hx, hy⟩ := hv.two
  have hvs : vs = #[x, y] := by
    apply Array.toList_inj.1
    rw [← hxy, List.take_of_length_le (by simp [h1])]
  subst hvs
  exact ⟨b, x, y, hm, hh, hx, hy, hs.low, hs.pr, hs.ok⟩

theorem check_used {f : FuncId} (hc : ∀ (b : Nat) (w : World), w.cell? ⟨b, 0, none⟩ = some (.pointer (some ⟨b, 0, none⟩)) → Calls P f #[.pointer (some ⟨b, 0, none⟩)] w fun e w' => e = .returned (.tuple #[]) ∧ w' = w)
    {i : Nat} {s : AV} {ty : TypeId} (hb : σ.blk i = some [.gp i 0, s]) (ht : σ.bt i = some (2, ty)) : ACalls P f [.gp i 0] σ (fun v σ' => v = .tup [] ∧ σ' = σ) := by
  intro base g Pr w0 w vs hr hv
  obtain ⟨v, rfl, hvv⟩ := hv.one
  obtain ⟨b, x, y, hm, hh, hx, _, _, _, _⟩ := hr.blk2 hb ht
  cases hvv with | gp h =>
  cases hx with | gp h' =>
  rw [hm] at h h'; cases h; cases h'
  refine (hc b w (by simp [World.cell?, hh])).mono ?_
  rintro e w' ⟨rfl, rfl⟩
  exact ⟨_, .tup [], g, σ, rfl, .tup (vs := []) rfl (by simp), hr, Gh.le_refl g, KP.refl _ _, rfl, rfl⟩

theorem check_fresh {f : FuncId} {ty : TypeId} (hc : ∀ (b : Nat) (w : World), w.cell? ⟨b, 0, none⟩ = some (.pointer none) → w.shape? b = some (ty, 2) → w.frozen? ⟨b, 0, none⟩ = false → Calls P f #[.pointer (some ⟨b, 0, none⟩)] w fun e w' => e = .returned (.tuple #[]) ∧ w' = w.setCell ⟨b, 0, none⟩ (.pointer (some ⟨b, 0, none⟩)))
    {i : Nat} {s : AV} (hb : σ.blk i = some [.nilp, s]) (ht : σ.bt i = some (2, ty)) : ACalls P f [.gp i 0] σ (fun v σ' => v = .tup [] ∧ σ' = σ.setBlk i [.gp i 0, s]) := by
  intro base g Pr w0 w vs hr hv
  obtain ⟨v, rfl, hvv⟩ := hv.one
  obtain ⟨b, x, y, hm, hh, hx, hy, hlow, hpr, hok⟩ := hr.blk2 hb ht
  cases hvv with | gp h =>
  cases hx with | nilp =>
  rw [hm] at h; cases h
  refine (hc b w (by simp [World.cell?, hh]) (by simp [World.shape?, hh]) (by simp [World.frozen?, hh])).mono ?_
  rintro e w' ⟨rfl, rfl⟩
  have hbel : Below base w (w.setCell ⟨b, 0, none⟩ (.pointer (some ⟨b, 0, none⟩))) := (Below.refl base w).setCell (p := ⟨b, 0, none⟩) hlow _
  have hsz : (w.setCell ⟨b, 0, none⟩ (.pointer (some ⟨b, 0, none⟩))).heap.size = w.heap.size := by simp [World.setCell]
  have hne : ∀ k, k ≠ b → (w.setCell ⟨b, 0, none⟩ (.pointer (some ⟨b, 0, none⟩))).heap[k]? = w.heap[k]? := fun k hk => by
    simp only [World.setCell, Array.getElem?_modify]
    rw [if_neg (fun e => hk e.symm)]
  have hat : (w.setCell ⟨b, 0, none⟩ (.pointer (some ⟨b, 0, none⟩))).heap[b]? = some (.cells #[.pointer (some ⟨b, 0, none⟩), y] ty (0, 0)) := by
    simp [World.setCell, Array.getElem?_modify, hh]
  refine ⟨_, .tup [], g, σ.setBlk i [.gp i 0, s], rfl, .tup (vs := []) rfl (by simp), ?_, Gh.le_refl g, ⟨by omega, fun k hk => hne k (fun e => hpr (e ▸ hk))⟩, rfl, rfl⟩
  refine hr.write hb hm (by omega) (fun k _ hk => hne k hk) hbel hat (by simp) (fun t he => ?_) ?_ ?_
  · have := hr.st.2 i _ ht
    rw [this] at he; cases he; simp
  · simp only [List.length_cons, List.length_nil, Nat.zero_add]
    exact .cons (.gp hm) (.cons hy .nil)
  · simp only [cellsOk, List.all_cons, List.all_nil, Bool.and_true, Bool.and_eq_true] at hok ⊢
    exact ⟨rfl, hok.2⟩
end Go.Ab
