/- The operations that only yield a value: each does in the model what it does at the abstract level. Conditions: none. -/
import Derived.Test.YtdbpmhfepfpldaaDoorXAb4
set_option linter.unusedSimpArgs false
set_option linter.unusedVariables false
namespace Go.Ab
open Go.RowKit

variable {P : Program} {base N : Nat} {g : Gh} {Pr : Nat → Prop} {σ : Heap} {w0 w w' : World} {lam : Nat → Option Nat} {F : Fm} {L : Lm} {a : Act}

/-- In every state that fits, the operation yields a value that is v, and leaves a state that fits. -/
def VOp (P : Program) (o : Oper) (F : Fm) (L : Lm) (σ : Heap) (v : AV) : Prop :=
  ∀ (base : Nat) (g : Gh) (lam : Nat → Option Nat) (Pr : Nat → Prop) (N : Nat) (a : Act) (w0 w : World), FRel base g lam Pr N F L σ a w0 w →
    ∃ x g' w', (execOp a.eval o).run P w = .ok (.value x) w' ∧ g.le g' ∧ KP Pr w w' ∧ SV g' lam v x ∧ FRel base g' lam Pr N F L σ a w0 w'

theorem VOp.same {o : Oper} {v : AV}
    (h : ∀ (base : Nat) (g : Gh) (lam : Nat → Option Nat) (Pr : Nat → Prop) (N : Nat) (a : Act) (w0 w : World), FRel base g lam Pr N F L σ a w0 w →
      ∃ x, (execOp a.eval o).run P w = .ok (.value x) w ∧ SV g lam v x) : VOp P o F L σ v := by
  intro base g lam Pr N a w0 w hf
  obtain ⟨x, hr, hs⟩ := h base g lam Pr N a w0 w hf
  exact ⟨x, g, w, hr, Gh.le_refl g, KP.refl Pr w, hs, hf⟩

theorem cv_sound {v : Value} {x : AV} (h : cv v = some x) (g : Gh) : VR g x v := by
  unfold cv at h
  split at h
  · cases h; exact .d .bool
  · split at h
    · rename_i hk; cases h; exact .d (.int hk)
    · cases h
  · rename_i s
    split at h
    · rename_i hl; cases h
      have : (ByteArray.mk s.data.toList.toArray) = s := by cases s; simp
      have hh : VR g (.d (.str s.data.toList)) (.string ⟨s.data.toList.toArray⟩) := .d (.str hl)
      rwa [this] at hh
    · cases h
  · cases h; exact .nils
  · cases h; exact .nilp
  · cases h; exact .nilf
  · cases h

theorem cv_cell {v : Value} {x : AV} (h : cv v = some x) : x.isCell = true := by
  unfold cv at h
  split at h <;> first | (cases h; rfl) | (split at h <;> first | (cases h; rfl) | cases h) | cases h

theorem SV.mono {g g' : Gh} (hg : g.le g') {x : AV} {v : Value} (h : SV g lam x v) : SV g' lam x v := by
  cases x <;> first | exact VR.mono hg h | exact h

theorem xo_sound {y : Operand} {x : X} (hx : xo y = some x) (h : FRel base g lam Pr N F L σ a w0 w) : SV g lam (xv F x) (a.eval y) := by
  cases y with
  | tmp n => simp only [xo, Option.some.injEq] at hx; subst hx; exact h.tm n
  | const v =>
    simp only [xo, Option.some.injEq] at hx
    subst hx
    cases hc : cv v with
    | none => exact SV.of_vr (x := .undef) .undef
    | some c => exact SV.of_vr (cv_sound hc g)
  | func f =>
    simp only [xo, Option.some.injEq] at hx; subst hx
    exact VR.fn (fs := []) (cs := []) rfl rfl (by simp) (by simp)
  | global _ => cases hx

theorem run_under {t : TypeId} {d : TypeDesc} (h : P.underlying t = some d) : (underlying t).run P w = .ok d w := by
  simp [underlying, h]

theorem run_size {t : TypeId} {n : Nat} (h : szT P t = some n) : (sizeOf t).run P w = .ok n w := by
  simp only [szT, Option.map_eq_some_iff] at h
  obtain ⟨i, hi, rfl⟩ := h
  simp [sizeOf, typeInfo, hi]

theorem run_isAgg1 {t : TypeId} (h : ldN P t = some none) : (isAgg t).run P w = .ok false w := by
  unfold ldN at h
  cases hu : P.underlying t with
  | none => rw [hu] at h; cases h
  | some d =>
    rw [hu] at h
    cases d <;> first | (simp [isAgg, run_under hu]; done) | (exfalso; cases hs : szT P t <;> simp [hs] at h)

theorem run_isAggN {t : TypeId} {n : Nat} (h : ldN P t = some (some n)) : (isAgg t).run P w = .ok true w ∧ szT P t = some n := by
  unfold ldN at h
  cases hu : P.underlying t with
  | none => rw [hu] at h; cases h
  | some d =>
    rw [hu] at h
    cases d <;> simp at h <;> exact ⟨by simp [isAgg, run_under hu], h⟩

theorem load_sound {t : TypeId} {n : Option Nat} (ht : ldN P t = some n) {cs : List AV} {vs : List Value} {b off o : Nat} {v : AV} (hr : VRs g cs vs) (hc : cellsOk cs = true)
    (hcell : ∀ j u, vs[j]? = some u → w.cell? ⟨b, off + j, none⟩ = some u) (hv : rdC cs o n = some v) :
    ∃ x, (Instr.loadAt t (.pointer (some ⟨b, off + o, none⟩))).run P w = .ok x w ∧ VR g v x := by
  cases n with
  | none =>
    simp only [rdC, Option.bind_eq_some_iff] at hv
    obtain ⟨v0, hv, hcv⟩ := hv
    obtain ⟨rfl, _⟩ := cellV_some hcv
    obtain ⟨x, hx, hvr⟩ := hr.at o _ hv
    exact ⟨x, by simp [Instr.loadAt, Instr.sureAddr, loadVar, run_isAgg1 ht, hcell o x hx], hvr⟩
  | some n =>
    simp only [rdC] at hv
    split at hv
    · rename_i hle
      cases hv
      obtain ⟨h1, h2⟩ := run_isAggN (w := w) ht
      have hlen := hr.length
      have hrr := (hr.drop o).take n
      refine ⟨.agg ((vs.drop o).take n).toArray, ?_, .agg (by simp [hlen]) ?_ (fun i c u hc hu => hrr.idx i c u hc hu)⟩
      · have hl : ((vs.drop o).take n).length = n := by simp; omega
        have hload := run_loadCells_list (P := P) w ⟨b, off + o, none⟩ ((vs.drop o).take n) (fun j u hu => by
          rw [Addr.add_lit]
          rw [List.getElem?_take] at hu
          split at hu
          · rw [List.getElem?_drop] at hu
            rw [Nat.add_assoc]; exact hcell (o + j) u hu
          · cases hu)
        rw [hl] at hload
        simp [Instr.loadAt, Instr.sureAddr, loadVar, h1, run_size h2, hload]
      · intro c hcm
        have : c ∈ cs := List.mem_of_mem_drop (List.mem_of_mem_take hcm)
        simp only [cellsOk, List.all_eq_true] at hc
        exact hc c this
    · cases hv

theorem cell_row {b : Nat} {vs : Array Value} {ty : TypeId} {fr : Nat × Nat} (h : w.heap[b]? = some (.cells vs ty fr)) : ∀ j u, vs.toList[j]? = some u → w.cell? ⟨b, 0 + j, none⟩ = some u := by
  intro j u hu
  rw [Nat.zero_add, cell_of_row w b j vs ty fr h]
  simpa using hu

theorem cellsOk_map (r : List DV) : cellsOk (r.map AV.d) = true := by simp [cellsOk, AV.isCell]

theorem ld_sound {t : TypeId} {n : Option Nat} (ht : ldN P t = some n) (h : FRel base g lam Pr N F L σ a w0 w) {p : AV} {pvl : Value} (hp : SV g lam p pvl) {v : AV} (hv : ldA L σ p n = some v) :
    ∃ x, (Instr.loadAt t pvl).run P w = .ok x w ∧ VR g v x := by
  cases p with
  | lp k o =>
    obtain ⟨b, hb, rfl⟩ := hp
    simp only [ldA, Option.bind_eq_some_iff] at hv
    obtain ⟨cs, hcs, hv⟩ := hv
    obtain ⟨hok, b', vs, ty, hb', _, hheap, hrs⟩ := h.loc k cs hcs
    rw [hb] at hb'; cases hb'
    have := load_sound (P := P) (w := w) (off := 0) ht hrs hok (cell_row hheap) hv
    simpa using this
  | gp i o =>
    simp only [ldA, Option.bind_eq_some_iff] at hv
    obtain ⟨cs, hcs, hv⟩ := hv
    obtain ⟨b, hb, ho⟩ := h.rel.shr i cs hcs
    obtain ⟨vs, ty, hheap, _, _, hrs⟩ := ho.row
    cases hp with
    | gp hm =>
      rw [hb] at hm; cases hm
      have := load_sound (P := P) (w := w) (off := 0) ht hrs ho.ok (fun j u hu => cell_row hheap j u (by
        rw [List.getElem?_take] at hu
        split at hu
        · exact hu
        · cases hu)) hv
      simpa using this
  | d x =>
    cases x <;> simp only [ldA] at hv <;> try (cases hv; done)
    rename_i r
    cases hp with
    | d hp => cases hp with
      | @ptr _ b o2 f hi hr =>
        have hrs : VRs g (r.map AV.d) ((List.range r.length).map f) := by
          refine VRs.of_idx _ _ (by simp) fun i c u hc hu => ?_
          rw [List.getElem?_map, Option.map_eq_some_iff] at hc hu
          obtain ⟨x, hx, rfl⟩ := hc
          obtain ⟨j, hj, rfl⟩ := hu
          have hji : i = j := by
            rw [List.getElem?_range (by have := (List.getElem?_eq_some_iff.1 hx).1; omega)] at hj; simpa using hj
          subst hji
          exact .d (hr i x hx)
        exact load_sound (P := P) (w := w) (off := o2) (o := 0) ht hrs (cellsOk_map r) (fun j u hu => by
          rw [List.getElem?_map, Option.map_eq_some_iff] at hu
          obtain ⟨i, hi', rfl⟩ := hu
          have hlt : j < r.length := by
            rcases Nat.lt_or_ge j r.length with h1 | h1
            · exact h1
            · simp [h1] at hi'
          rw [List.getElem?_range hlt] at hi'; cases hi'
          exact h.rel.im _ _ _ (hi j hlt)) hv
  | ep r o =>
    cases hp with
    | @ep _ _ b o2 f hi hr =>
      have hrs : VRs g (r.map AV.d) ((List.range r.length).map f) := by
        refine VRs.of_idx _ _ (by simp) fun i c u hc hu => ?_
        rw [List.getElem?_map, Option.map_eq_some_iff] at hc hu
        obtain ⟨x, hx, rfl⟩ := hc
        obtain ⟨j, hj, rfl⟩ := hu
        have hji : i = j := by
          rw [List.getElem?_range (by have := (List.getElem?_eq_some_iff.1 hx).1; omega)] at hj; simpa using hj
        subst hji
        exact .d (hr i x hx)
      exact load_sound (P := P) (w := w) (off := o2) ht hrs (cellsOk_map r) (fun j u hu => by
        rw [List.getElem?_map, Option.map_eq_some_iff] at hu
        obtain ⟨i, hi', rfl⟩ := hu
        have hlt : j < r.length := by
          rcases Nat.lt_or_ge j r.length with h1 | h1
          · exact h1
          · simp [h1] at hi'
        rw [List.getElem?_range hlt] at hi'; cases hi'
        exact h.rel.im _ _ _ (hi j hlt)) hv
  | _ => simp [ldA] at hv

end Go.Ab
