/- strings.Join, laid at this program and carried over to abstract states. Conditions: none. -/
import Derived.Test.YtdbpmhfepfpldaaDoorXBs
import Derived.Shelf.Strings.OnBuilder
set_option linter.unusedSimpArgs false
set_option linter.unusedVariables false
namespace Go.Proofs
open Go.Shelf
def Tryd.lays156_ren : Go.Shelf.Ren := ⟨fun | 156 => 80 | 165 => 103 | 166 => 52 | 169 => 55 | 240 => 82 | 241 => 116 | 276 => 104 | 277 => 142 | n => n, fun | 31 => 108 | 9 => 9 | 3 => 3 | 4 => 4 | 0 => 0 | 20 => 20 | 72 => 73 | 76 => 77 | 70 => 70 | 37 => 71 | 75 => 76 | 127 => 110 | 164 => 126 | 5 => 5 | 80 => 81 | n => n, fun | n => n⟩
theorem Tryd.lays156 : Go.Proofs.Lays.n156 Tryd.prog Tryd.lays156_ren := {
  mixed := by kernel_rfl
  f156 := Tryd.func80.trans (congrArg some (by kernel_rfl))
  f165 := Tryd.func103.trans (congrArg some (by kernel_rfl))
  f166 := Tryd.func52.trans (congrArg some (by kernel_rfl))
  f169 := Tryd.func55.trans (congrArg some (by kernel_rfl))
  f240 := Tryd.func82.trans (congrArg some (by kernel_rfl))
  f241 := Tryd.func116.trans (congrArg some (by kernel_rfl))
  f276 := Tryd.func104.trans (congrArg some (by kernel_rfl))
  f277 := Tryd.func142.trans (congrArg some (by kernel_rfl))
  t0 := Tryd.underlying0
  a0 := Tryd.isAgg0
  z0 := Tryd.sizeOf0
  v0 := Tryd.zeroValue0
  t3 := Tryd.underlying3
  a3 := Tryd.isAgg3
  z3 := Tryd.sizeOf3
  v3 := Tryd.zeroValue3
  t4 := Tryd.underlying4
  a4 := Tryd.isAgg4
  z4 := Tryd.sizeOf4
  v4 := Tryd.zeroValue4
  t9 := Tryd.underlying9
  a9 := Tryd.isAgg9
  z9 := Tryd.sizeOf9
  v9 := Tryd.zeroValue9
  t20 := Tryd.underlying20
  a20 := Tryd.isAgg20
  z20 := Tryd.sizeOf20
  v20 := Tryd.zeroValue20
  t31 := Tryd.underlying108
  a31 := Tryd.isAgg108
  z31 := Tryd.sizeOf108
  v31 := Tryd.zeroValue108
  t37 := Tryd.underlying71
  a37 := Tryd.isAgg71
  z37 := Tryd.sizeOf71
  v37 := Tryd.zeroValue71
  t70 := Tryd.underlying70
  a70 := Tryd.isAgg70
  z70 := Tryd.sizeOf70
  v70 := Tryd.zeroValue70
  t72 := Tryd.underlying73
  a72 := Tryd.isAgg73
  z72 := Tryd.sizeOf73
  v72 := Tryd.zeroValue73
  t75 := Tryd.underlying76
  a75 := Tryd.isAgg76
  z75 := Tryd.sizeOf76
  v75 := Tryd.zeroValue76
  t76 := Tryd.underlying77
  a76 := Tryd.isAgg77
  z76 := Tryd.sizeOf77
  v76 := Tryd.zeroValue77
  t127 := Tryd.underlying110
  a127 := Tryd.isAgg110
  z127 := Tryd.sizeOf110
  v127 := Tryd.zeroValue110
  t164 := Tryd.underlying126
  a164 := Tryd.isAgg126
  z164 := Tryd.sizeOf126
  v164 := Tryd.zeroValue126 }
theorem Tryd.Builder_Extra_156 : Builder.Extra Tryd.prog Tryd.lays156_ren := {
  sizeBuilder := by kernel_rfl
  liesBuilder := by kernel_rfl
  t5 := Tryd.underlying5
  a5 := Tryd.isAgg5
  z5 := Tryd.sizeOf5
  v5 := Tryd.zeroValue5
  infoByte := by kernel_rfl
  cellsByte := by kernel_rfl
  sizeByte := by kernel_rfl
  neB5 := by decide }
end Go.Proofs
namespace Go.Ab
open Go.RowKit Go.Proofs

theorem Rel.below {base : Nat} {g : Gh} {Pr : Nat → Prop} {σ : Heap} {w0 w w' : World} (h : Rel base g Pr σ w0 w) (hb : Below w.heap.size w w') : Rel base g Pr σ w0 w' ∧ KP Pr w w' :=
  ⟨h.grow hb.size (fun b hlt _ => hb.block b hlt) ⟨hb.os, hb.tape, hb.output, hb.size, fun b hlt => hb.block b (Nat.lt_of_lt_of_le hlt h.bs)⟩ (fun b hp => ⟨Nat.lt_of_lt_of_le (h.pr b hp).1 hb.size, .inl hp⟩), hb.size, fun b hp => hb.block b (h.pr b hp).1⟩

def bys (s : List UInt8) : ByteArray := ⟨s.toArray⟩
theorem bys_list (l : List (List UInt8)) : (l.map bys).map (·.data.toList) = l := by
  rw [List.map_map]
  conv => rhs; rw [← List.map_id l]
  rfl

theorem Join_ok (l : List (List UInt8)) (sep : List UInt8) (σ : Heap) (hN : l.length ≤ 100000) (hlen : (Lib.join l sep).length ≤ 1000000000) :
    ACalls Tryd.prog 80 [.d (.sl (l.map sRow)), .d (.str sep)] σ (fun v σ' => v = .d (.str (Lib.join l sep)) ∧ σ' = σ) := by
  intro base g Pr w0 w vs hr hv
  obtain ⟨v, u, rfl, h1, h2⟩ := hv.two
  have hlen' : (Lib.join l sep).length ≤ maxLen := Nat.le_trans hlen (by decide +kernel)
  cases h2 with | d h2 => cases h2 with | str _ =>
  have fin : ∀ w', Below w.heap.size w w' → ∃ v av g' σ', (Ending.returned (.string ⟨(Lib.join l sep).toArray⟩)) = Ending.returned v ∧ VR g' av v ∧ Rel base g' Pr σ' w0 w' ∧ g.le g' ∧ KP Pr w w' ∧ av = .d (.str (Lib.join l sep)) ∧ σ' = σ := fun w' hb => by
    obtain ⟨k1, k2⟩ := hr.below hb
    exact ⟨_, _, g, σ, rfl, .d (.str hlen'), k1, Gh.le_refl g, k2, rfl, rfl⟩
  cases l with
  | nil =>
    cases h1 with | d h1 =>
    obtain ⟨a, cap, rfl, _⟩ := h1.sl_len
    refine Calls.mono (show Calls Tryd.prog 80 #[.slice a 0 cap, .string ⟨sep.toArray⟩] w _ from Any.strings_Join_none Tryd.lays156 Tryd.Builder_Extra_156 a cap ⟨sep.toArray⟩ w) ?_
    rintro e w' ⟨rfl, rfl⟩
    exact fin _ (Below.refl _ _)
  | cons x l =>
    cases h1 with | d h1 =>
    generalize hrows : List.map sRow (x :: l) = rows at h1
    cases h1 with
    | nil => simp at hrows
    | @sl rows b off cap size f hc hm hs hi hrd =>
      subst hrows
      have hs1 : size = 1 := by
        have := hs (sRow x) (by simp)
        simpa [sRow] using this.symm
      subst hs1
      have hcell : ∀ (j : Nat) (y : ByteArray), ((x :: l).map bys)[j]? = some y → w.cell? ⟨b, off + j, none⟩ = some (.string y) := by
        intro j y hy
        rw [List.getElem?_map, Option.map_eq_some_iff] at hy
        obtain ⟨s, hsj, rfl⟩ := hy
        have hjl : j < ((x :: l).map sRow).length := by
          have := (List.getElem?_eq_some_iff.1 hsj).1
          simpa using this
        have h3 := hi j 0 hjl (by omega)
        have h4 := hrd j (sRow s) 0 (.str s) (by rw [List.getElem?_map, hsj]; rfl) rfl
        generalize f j 0 = fv at h3 h4
        cases h4
        have := hr.im _ _ _ h3
        rw [Nat.mul_one, Nat.add_zero] at this
        exact this
      have hbk : b < w.heap.size := by
        have h3 := hi 0 0 (by simp) (by omega)
        exact hr.im_lt h3
      have hc' : ((x :: l).map bys).length ≤ cap := by simpa using hc
      have hcon := Any.strings_Join Tryd.lays156 Tryd.Builder_Extra_156 b off cap ((x :: l).map bys) ⟨sep.toArray⟩ w hcell hbk (by simp at hN ⊢; omega) hc' (by rw [bys_list]; simp only [List.toList_toArray]; omega)
      rw [bys_list] at hcon
      rw [List.length_map] at hcon ⊢
      refine Calls.mono hcon ?_
      rintro e w' ⟨rfl, hb⟩
      exact fin _ hb

theorem Join_plain {l : List (List UInt8)} {sep : List UInt8} {v : AV} {σ : Heap} (hv : v.plain = .d (.sl (l.map sRow))) (hN : l.length ≤ 100000) (hlen : (Lib.join l sep).length ≤ 1000000000) :
    ACalls Tryd.prog 80 [v, .d (.str sep)] σ (fun u σ' => u = .d (.str (Lib.join l sep)) ∧ σ' = σ) :=
  ACalls.plain (by simp only [AV.plains, AV.plain, hv]; exact Join_ok l sep σ hN hlen)
end Go.Ab
