/- What the rows of this seat share: forms read off their cells, the table of powers of ten. Conditions: none. -/
import Derived.Test.YtdbpmhfepfpldaaDoorCards
import Derived.Test.YtdbpmhfepfpldaaDoorTie
import Derived.LaidMore
import Derived.OpenShut
import Derived.Stop.Joined
import Derived.Test.YtdbpmhfepfpldaaDoorXLiftB
import Derived.Test.YtdbpmhfepfpldaaDoorXFa
import Derived.Test.YtdbpmhfepfpldaaDoorXBs
set_option linter.unusedSimpArgs false
set_option linter.unusedVariables false
namespace Go.Ab
open Go.Proofs

theorem dec_term (ds : List DV) (h : DT Tryd.prog 49 ds) : ∃ x : Int × Int, ds = tmR x := by
  obtain ⟨a, b, rfl, h1, hb⟩ := (h.inv_struct Tryd.underlying49).inv_cons
  obtain ⟨a2, b2, rfl, h2, hb2⟩ := hb.inv_cons
  cases hb2.inv_nil
  obtain ⟨k, rfl, _⟩ := h1.inv_int Tryd.underlying3
  obtain ⟨m, rfl, _⟩ := h2.inv_int Tryd.underlying2
  exact ⟨(k, m), rfl⟩
theorem dec_lin (ds : List DV) (h : DT Tryd.prog 33 ds) : ∃ l : Ln, ds = l.enc := by
  obtain ⟨a, b, rfl, h1, hb⟩ := (h.inv_struct Tryd.underlying33).inv_cons
  obtain ⟨a2, b2, rfl, h2, hb2⟩ := hb.inv_cons
  cases hb2.inv_nil
  obtain ⟨m, rfl, _⟩ := h1.inv_int Tryd.underlying2
  obtain ⟨rows, rfl, _, hr⟩ := h2.inv_sl Tryd.underlying31
  obtain ⟨l, hl⟩ := rows_map (f := tmR) rows (fun r hm => dec_term r (hr r hm))
  exact ⟨⟨m, l⟩, by rw [hl]; rfl⟩

def gtT : Nat → Option (Array Value) := fun b => if b = powB then some powA else none
theorem gtT_pow : (startT gtT).gt powB = some powA := by simp [startT, gtT]

end Go.Ab
namespace Go.Proofs.YtdbpmhfepfpldaaDoor
open Go.ChangeShapes Go.WideShapes Go.ChangeAt Go.RowKit

theorem Tryd.own : ownKnob Tryd.prog.godebug = none := by kernel_rfl
theorem Tryd.laidOut : laidOutB Tryd.prog = true := by kernel_rfl

def laid3 : List (String × DataW Unit) := [("math/bits.deBruijn32tab", Rows.laid_math_bits_deBruijn32tab), ("math/bits.deBruijn64tab", Rows.laid_math_bits_deBruijn64tab), ("internal/strconv.uint64pow10", Rows.laid_internal_strconv_uint64pow10)]

theorem pow_type : (Tryd.prog.globals[0]?).map (·.type) = some 140 := by kernel_rfl

theorem door_met (os : Os) (args : Array Value) : laidMetH Tryd.prog laid3 ((World.doorLaid Tryd.prog 400 os).forCall (fun _ _ => 0) ⟨#[], args, []⟩).memory :=
  laidMetH_of_parts3 (fuel := 8) (laidMet_of_run' 8 (by kernel_rfl) (by kernel_rfl)) (by kernel_rfl) (by kernel_rfl)

theorem pow_laid {W : World} (h : laidMetH Tryd.prog laid3 W) : ∀ b vs, Go.Ab.gtT b = some vs → ∃ ty fr, W.heap[b]? = some (.cells vs ty fr) := by
  rw [MakeChecks.laidMetH_plain _ _ _ (by kernel_rfl)] at h
  obtain ⟨ps, ⟨g0, t0, cs0, f0, p0, q0, hg0, ht0, hv0, hd0, ⟨g1, t1, cs1, f1, p1, q1, hg1, ht1, hv1, hd1, ⟨g2, t2, cs2, f2, p2, q2, hg2, ht2, hv2, hd2, _, _⟩, _⟩, _⟩, _, _⟩ := h
  obtain rfl := Option.some.inj (Go.Ab.pow_named.symm.trans hg2)
  obtain rfl := Option.some.inj (pow_type.symm.trans ht2)
  have hc := Lib.cells_of_tab (k := .u64) (zs := Lib.pow10Tab) Tryd.underlying140 Tryd.underlying94 (by kernel_rfl) (by kernel_rfl) (show DataW.trod _ _ _ _ _ _ _ _ _ = some (Lib.tabData .u64 Lib.pow10Tab, p2) from hd2)
  intro b vs hb
  unfold Go.Ab.gtT at hb
  split at hb
  · rename_i e
    subst e
    cases hb
    unfold World.var? at hv2
    rw [Go.Ab.pow_named, Option.bind_some] at hv2
    cases hh : W.heap[Go.Ab.powB]? with
    | none => rw [hh] at hv2; cases hv2
    | some o =>
      rw [hh] at hv2
      cases o <;> try (cases hv2; done)
      rename_i vs ty fr
      refine ⟨ty, fr, ?_⟩
      congr 2
      have : vs = cs2 := by simpa using hv2
      rw [this]
      apply Array.toList_inj.1
      rw [hc]; rfl
  · cases hb
end Go.Proofs.YtdbpmhfepfpldaaDoor
