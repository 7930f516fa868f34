/- The given statement TypingTexts, as a card: for every input the law returns true. Conditions: none. -/
import Derived.Test.YtdbpmhfepfpldaaDoorXLfK
import Derived.Test.YtdbpmhfepfpldaaDoorXHf
set_option linter.unusedSimpArgs false
set_option linter.unusedVariables false
namespace Go.Ab
open Go.Proofs

theorem dec_ty : ∀ (n : Nat) (ds : List DV), SizeOf.sizeOf ds ≤ n → DT Tryd.prog 25 ds → ∃ t : Ty, ds = t.enc := by
  intro n
  induction n with
  | zero => intro ds h; cases ds <;> simp at h
  | succ n ih =>
    intro ds hn h
    obtain ⟨a, b, rfl, h1, hb⟩ := (h.inv_struct Tryd.underlying25).inv_cons
    obtain ⟨a2, b2, rfl, h2, hb2⟩ := hb.inv_cons
    obtain ⟨a3, b3, rfl, h3, hb3⟩ := hb2.inv_cons
    cases hb3.inv_nil
    obtain ⟨k, rfl, _⟩ := h1.inv_int Tryd.underlying3
    obtain ⟨m, rfl, _⟩ := h2.inv_int Tryd.underlying3
    obtain ⟨rows, rfl, _, hr⟩ := h3.inv_sl Tryd.underlying23
    obtain ⟨l, hl⟩ := rows_map (f := Ty.enc) rows (fun r hm => ih r (by
      have := List.sizeOf_lt_of_mem hm
      simp only [List.cons_append, List.nil_append, List.append_nil, List.cons.sizeOf_spec, List.nil.sizeOf_spec, DV.int.sizeOf_spec, DV.sl.sizeOf_spec] at hn
      omega) (hr r hm))
    exact ⟨.mk k m l, by rw [hl, ← Ty.encs_map]; rfl⟩
theorem dec_con (ds : List DV) (h : DT Tryd.prog 61 ds) : ∃ c : Con, ds = c.enc := by
  obtain ⟨a, b, rfl, h1, hb⟩ := (h.inv_struct Tryd.underlying61).inv_cons
  obtain ⟨a2, b2, rfl, h2, hb2⟩ := hb.inv_cons
  cases hb2.inv_nil
  obtain ⟨s, rfl, _⟩ := h1.inv_str Tryd.underlying9
  obtain ⟨rows, rfl, _, hr⟩ := h2.inv_sl Tryd.underlying23
  obtain ⟨l, hl⟩ := rows_map (f := Ty.enc) rows (fun r hm => dec_ty _ r (Nat.le_refl _) (hr r hm))
  exact ⟨⟨s, l⟩, by rw [hl, ← Ty.encs_map]; rfl⟩
theorem dec_dat (ds : List DV) (h : DT Tryd.prog 59 ds) : ∃ c : Dat, ds = c.enc := by
  obtain ⟨a, b, rfl, h1, hb⟩ := (h.inv_struct Tryd.underlying59).inv_cons
  obtain ⟨a2, b2, rfl, h2, hb2⟩ := hb.inv_cons
  obtain ⟨a3, b3, rfl, h3, hb3⟩ := hb2.inv_cons
  cases hb3.inv_nil
  obtain ⟨s, rfl, _⟩ := h1.inv_str Tryd.underlying9
  obtain ⟨m, rfl, _⟩ := h2.inv_int Tryd.underlying3
  obtain ⟨rows, rfl, _, hr⟩ := h3.inv_sl Tryd.underlying57
  obtain ⟨l, hl⟩ := rows_map (f := Con.enc) rows (fun r hm => dec_con r (hr r hm))
  exact ⟨⟨s, m, l⟩, by rw [hl]; rfl⟩

theorem typingTexts_main (av : List AV) (h : DArgs Tryd.prog [22, 25, 3] av) : ACalls Tryd.prog 3 av (startT gtT) (fun v _ => v = .d (.bool true)) := by
  cases h with | cons h1 h =>
  cases h with | cons h2 h =>
  cases h with | cons h3 h =>
  cases h
  obtain ⟨rows, rfl, _, hr⟩ := h1.inv_sl Tryd.underlying22
  obtain ⟨x0, rfl⟩ := rows_map (f := Dat.enc) rows (fun r hm => dec_dat r (hr r hm))
  obtain ⟨x1, rfl⟩ := dec_ty _ _ (Nat.le_refl _) h2
  obtain ⟨x2, rfl, _⟩ := h3.inv_int Tryd.underlying3
  rw [argA_one Tryd.underlying22 (by simp), argA_struct Tryd.underlying25, argA_one Tryd.underlying3 (by simp)]
  exact (TypingTexts_ok x0 x1 x2 (startT gtT) gtT_pow).mono (fun _ _ h => h.1)

end Go.Ab
namespace Go.Proofs.YtdbpmhfepfpldaaDoor
open Go.ChangeShapes Go.WideShapes Go.ChangeAt Go.RowKit

set_option maxRecDepth 100000 in
theorem typingTexts_lifted (os : Os) (started : os.Started) (H : Type) (enc : TypeId × Value → H) :
    ReturnsInHanded {} Tryd.checked os 3 .any (fun w args => (Rows.typingTextsSpec.pre enc Tryd.prog Tryd.f3 [] false w args ∧ laidMetH Tryd.prog laid3 w) ∧ sizedMet enc Tryd.prog Tryd.f3 (OpenSpec.ofChange Rows.typingTextsSpec) false w args)
      (Rows.typingTextsSpec.post enc Tryd.prog Tryd.f3 false true false false) := by
  refine returnsInHanded_of_change_and (C := Tryd.checked) (X := fun w _ => laidMetH Tryd.prog laid3 w) (fun _ _ _ hh h => h.of_heap hh) Tryd.own started (by kernel_rfl) Tryd.func3
    (ChangeSpec.witness_shaped (enc := enc) (C := Tryd.checked) (os := os) (X := fun w _ => laidMetH Tryd.prog laid3 w) false (World.doorLaid Tryd.prog 400 os) #[.slice none 0 0, .agg #[.int .i64 0, .int .i64 0, .slice none 0 0], .int .i64 0] 8 rfl (World.shaped_of_RefB (by kernel_rfl) (by kernel_rfl)) (by kernel_rfl) (by kernel_rfl) (by kernel_rfl) (door_met os _)) ?_
  intro W base args ds gs before hval hW _ _ hL _
  refine Go.Ab.law_contractT (P := Tryd.prog) (gt := Go.Ab.gtT) [22, 59, 9, 3, 57, 61, 23, 25] Tryd.laidOut (by kernel_rfl) ?_ ?_ (tb := 4) (by kernel_rfl) Tryd.underlying4 rfl ?_ ?_ W (pow_laid hL) base args ds gs before hval hW
  · rw [Tryd.params3]; simp
  · rw [Tryd.params3]
    intro t ht
    simp only [List.mem_cons, List.not_mem_nil, or_false] at ht
    rcases ht with rfl | rfl | rfl
    · exact ⟨by kernel_rfl, of_decide_eq_true (by kernel_rfl)⟩
    · exact ⟨by kernel_rfl, of_decide_eq_true (by kernel_rfl)⟩
    · exact ⟨by kernel_rfl, of_decide_eq_true (by kernel_rfl)⟩
  · rw [Tryd.params3]
    intro ds hd
    match ds, hd with
    | [d0, d1, d2], _ => rfl
  · rw [Tryd.params3]
    exact Go.Ab.typingTexts_main

theorem typingTexts_row : Rows.TypingTextsSaid :=
  OpenClaim.holds_of_wide 3 Tryd.f3 rfl rfl rfl rfl rfl rfl rfl ⟨rfl, rfl, rfl, rfl, rfl⟩ rfl rfl rfl rfl rfl (by kernel_rfl) Tryd.func3 (by kernel_rfl)
    (of_decide_eq_true (by kernel_rfl)) (by unfold Func.isWrapper; first | (rw [if_pos (by decide +kernel)]; kernel_rfl) | (rw [if_neg (by decide +kernel)]; exact ⟨rfl, rfl⟩))
    (fun os started H enc _ => typingTexts_lifted os started H enc)

theorem typingTexts_holds : Rows.TypingTextsCardSaid :=
  Claim7.holds_tied_plain_at .later [] [.data, .data, .data] true (true, "77d8020c10c3e82ea6b5e5ed0f848ba91c8775fd7cc19528a90a5aa01435b65e") false
    typingTexts_row (fun _ h => by cases h) (by kernel_rfl) (fun _ h => by cases h) typingTexts_row_tie rfl ⟨rfl, rfl⟩ (by kernel_rfl) rfl
    (fun f fn hf hfn => by
      obtain rfl : f = 3 := Option.some.inj ((show Tryd.prog.funcNamed "amortcost/amortcostlaw06.TypingTexts" = some 3 by kernel_rfl).symm.trans hf) |>.symm
      obtain rfl : fn = Tryd.f3 := (Option.some.inj (Tryd.func3.symm.trans hfn)).symm
      exact ⟨by kernel_rfl, fun j t ht => by
        rw [Tryd.params3] at ht
        have hm : t ∈ [22, 25, 3] := by simpa using Array.mem_of_getElem? ht
        have hall : ([22, 25, 3].all fun u => !Tryd.prog.wantsStandIn u) = true := by kernel_rfl
        exact (show Tryd.prog.wantsStandIn t = false by simpa using List.all_eq_true.1 hall t hm)⟩)
    (by kernel_rfl)

end Go.Proofs.YtdbpmhfepfpldaaDoor
#print axioms Go.Proofs.YtdbpmhfepfpldaaDoor.typingTexts_holds
