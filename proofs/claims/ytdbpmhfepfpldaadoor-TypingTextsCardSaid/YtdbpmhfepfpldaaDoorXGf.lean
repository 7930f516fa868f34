/- The builder of strings. Conditions: none. -/
import Derived.Test.YtdbpmhfepfpldaaDoorXGl
import Derived.Test.YtdbpmhfepfpldaaDoorXBs
set_option linter.unusedSimpArgs false
set_option linter.unusedVariables false
namespace Go.Ab
open Go.Proofs

/-- A builder that holds the bytes s, in a heap that knows else what σ0 knows. -/
structure BuS (σ0 : Heap) (i : Nat) (s : List UInt8) (σ : Heap) : Prop where
  fresh : σ0.blk i = none
  freshT : σ0.bt i = none
  le : σ0.le σ
  bt : σ.bt i = some (2, 73)
  blk : ∃ p v, σ.blk i = some [p, v] ∧ (p = .nilp ∨ p = .gp i 0) ∧ ((v = .nils ∧ s = []) ∨ (∃ t, v = .own t 5 1 (byteRows s) ∧ s ≠ [] ∧ σ.tok t = true ∧ σ0.tok t = false))

theorem bus_alloc {σ : Heap} {i : Nat} (h : σ.blk i = none ∧ σ.bt i = none) : BuS σ i [] ((σ.setBlk i [.nilp, .nils]).setBt i (2, 73)) where
  fresh := h.1
  freshT := h.2
  le := ⟨fun j cs hj => by
      have hne : j ≠ i := fun e => by rw [e, h.1] at hj; cases hj
      simp [Heap.setBt, Heap.setBlk, hne, hj], fun _ h => h, rfl, fun j x hj => by
      have hne : j ≠ i := fun e => by rw [e, h.2] at hj; cases hj
      simp [Heap.setBt, Heap.setBlk, hne, hj]⟩
  bt := by simp [Heap.setBt]
  blk := ⟨.nilp, .nils, by simp [Heap.setBt, Heap.setBlk], .inl rfl, .inl ⟨rfl, rfl⟩⟩

/-- The address is set, the buffer is as it was. -/
theorem copyCheck_bus {σ0 σ : Heap} {i : Nat} {s : List UInt8} (h : BuS σ0 i s σ) : ACalls Tryd.prog 82 [.gp i 0] σ (fun v σ' => v = .tup [] ∧ BuS σ0 i s σ' ∧ ∃ v, σ'.blk i = some [.gp i 0, v] ∧ ((v = .nils ∧ s = []) ∨ (∃ t, v = .own t 5 1 (byteRows s) ∧ s ≠ [] ∧ σ'.tok t = true ∧ σ0.tok t = false))) := by
  obtain ⟨p, v, hb, hp | hp, hv⟩ := h.blk
  · subst hp
    refine (copyCheck_fresh_ok hb h.bt).mono ?_
    rintro v' σ' ⟨rfl, rfl⟩
    have hn : (σ.setBlk i [.gp i 0, v]).blk i = some [.gp i 0, v] := by simp [setBlk_get]
    refine ⟨rfl, ⟨h.fresh, h.freshT, ⟨fun j cs hj => ?_, h.le.tok, h.le.gt, h.le.bt⟩, h.bt, .gp i 0, v, hn, .inr rfl, hv⟩, v, hn, hv⟩
    have hne : j ≠ i := fun e => by rw [e, h.fresh] at hj; cases hj
    simp [setBlk_get, hne, h.le.blk j cs hj]
  · subst hp
    refine (copyCheck_used_ok hb h.bt).mono ?_
    rintro v' σ' ⟨rfl, rfl⟩
    exact ⟨rfl, h, v, hb, hv⟩

theorem byteRows_app (s x : List UInt8) : byteRows s ++ byteRows x = byteRows (s ++ x) := by simp [byteRows]
theorem byteRows_length (s : List UInt8) : (byteRows s).length = s.length := by simp [byteRows]

theorem WriteString_ok {σ0 σ : Heap} {i : Nat} {s : List UInt8} (x : List UInt8) (h : BuS σ0 i s σ) (hx : x ≠ []) (hl : s.length + x.length ≤ 1000000000) :
    ACalls Tryd.prog 52 [.gp i 0, .d (.str x)] σ (fun v σ' => v = .tup [.d (.int .i64 x.length), .undef] ∧ BuS σ0 i (s ++ x) σ') := by
  refine i_strings_Builder_WriteString (by simp) ?_
  rw [argF_2]
  (repeat' (first
      | refine Run.seq ?_
      | refine Run.skip ?_
      | refine Run.block ?_
      | refine Run.blk ?_
      | refine Run.scope ?_
      | refine Run.scp ?_
      | (refine Run.exit rfl ?_)
      | (refine Run.reg mixed ?_; simp -implicitDefEqProofs only [rs_strings_Builder_WriteString, Bool.not_eq_true', Bool.not_eq_false', go_sem, eq_self, Nat.reduceEqDiff, Nat.reduceBEq, Nat.reduceAdd, Nat.reduceLeDiff, reduceIte, reduceCtorEq, tysA, tyA, Ty.enc, Ty.encs])
      | (refine Run.condM ?_; simp -implicitDefEqProofs only [rs_strings_Builder_WriteString, Bool.not_eq_true', Bool.not_eq_false', go_sem, eq_self, Nat.reduceEqDiff, Nat.reduceBEq, Nat.reduceAdd, Nat.reduceLeDiff, reduceIte, reduceCtorEq, tysA, tyA, Ty.enc, Ty.encs])
      | (refine XCall.mk rfl (copyCheck_bus h) ?_; (try simp -implicitDefEqProofs only [rs_strings_Builder_WriteString, Bool.not_eq_true', Bool.not_eq_false', go_sem, eq_self, Nat.reduceEqDiff, Nat.reduceBEq, Nat.reduceAdd, Nat.reduceLeDiff, reduceIte, reduceCtorEq, tysA, tyA, Ty.enc, Ty.encs]))
      | (refine xo_gs rfl (fun h => ?_) (fun h => ?_) <;> first | (cases h; done) | simp -implicitDefEqProofs only [rs_strings_Builder_WriteString, Bool.not_eq_true', Bool.not_eq_false', go_sem, eq_self, Nat.reduceEqDiff, Nat.reduceBEq, Nat.reduceAdd, Nat.reduceLeDiff, reduceIte, reduceCtorEq, tysA, tyA, Ty.enc, Ty.encs])
      | (refine ⟨fun h => ?_, fun h => ?_⟩ <;> first | (cases h; done) | (simp -implicitDefEqProofs only [h]; done) | (try simp -implicitDefEqProofs only [h]))
      | fail))
  rintro _ σ1 ⟨rfl, hbu, v, hblk, hv⟩
  have hcell : v.isCell = true ∧ v.noLp = true ∧ v.cells = [v] := by
    rcases hv with ⟨rfl, _⟩ | ⟨t, rfl, _⟩ <;> exact ⟨rfl, rfl, rfl⟩
  (repeat' (first
      | refine Run.seq ?_
      | refine Run.skip ?_
      | refine Run.block ?_
      | refine Run.blk ?_
      | refine Run.scope ?_
      | refine Run.scp ?_
      | (refine Run.exit rfl ?_)
      | (refine Run.reg mixed ?_; simp -implicitDefEqProofs only [hblk, hcell.1, hcell.2.1, hcell.2.2, rs_strings_Builder_WriteString, Bool.not_eq_true', Bool.not_eq_false', go_sem, eq_self, Nat.reduceEqDiff, Nat.reduceBEq, Nat.reduceAdd, Nat.reduceLeDiff, reduceIte, reduceCtorEq, tysA, tyA, Ty.enc, Ty.encs])
      | (refine Run.condM ?_; simp -implicitDefEqProofs only [hblk, hcell.1, hcell.2.1, hcell.2.2, rs_strings_Builder_WriteString, Bool.not_eq_true', Bool.not_eq_false', go_sem, eq_self, Nat.reduceEqDiff, Nat.reduceBEq, Nat.reduceAdd, Nat.reduceLeDiff, reduceIte, reduceCtorEq, tysA, tyA, Ty.enc, Ty.encs])
      | (refine xo_gs rfl (fun h => ?_) (fun h => ?_) <;> first | (cases h; done) | simp -implicitDefEqProofs only [hblk, hcell.1, hcell.2.1, hcell.2.2, rs_strings_Builder_WriteString, Bool.not_eq_true', Bool.not_eq_false', go_sem, eq_self, Nat.reduceEqDiff, Nat.reduceBEq, Nat.reduceAdd, Nat.reduceLeDiff, reduceIte, reduceCtorEq, tysA, tyA, Ty.enc, Ty.encs])
      | (refine ⟨fun h => ?_, fun h => ?_⟩ <;> first | (cases h; done) | (simp -implicitDefEqProofs only [h]; done) | (try simp -implicitDefEqProofs only [h]))
      | fail))
  have happ : ∃ σ2, appA σ1 5 1 v = some (byteRows s, σ2) ∧ (∀ j, σ2.blk j = σ1.blk j) ∧ σ0.le σ2 ∧ σ2.bt = σ1.bt ∧ (∀ t, σ2.tok t = true → σ1.tok t = true) := by
    rcases hv with ⟨rfl, rfl⟩ | ⟨t, rfl, hs, ht, ht0⟩
    · exact ⟨σ1, rfl, fun _ => rfl, hbu.le, rfl, fun _ h => h⟩
    · refine ⟨σ1.delTok t, by simp [appA, ht], fun _ => rfl, ⟨hbu.le.blk, fun u hu => ?_, hbu.le.gt, hbu.le.bt⟩, rfl, fun u hu => ?_⟩
      · have hne : u ≠ t := fun e => by rw [e, ht0] at hu; cases hu
        simp [Heap.delTok, hne, hbu.le.tok u hu]
      · simp only [Heap.delTok] at hu
        split at hu
        · cases hu
        · exact hu
  obtain ⟨σ2, ha, hb2, hle2, hbt2, htk2⟩ := happ
  have hblk2 : σ2.blk i = some [.gp i 0, v] := by rw [hb2]; exact hblk
  refine XEx.apps hcell.2.1 ha (by rw [byteRows_length]; omega) (fun t ht => ?_)
  simp -implicitDefEqProofs only [hblk2, go_sem, eq_self, Nat.reduceEqDiff, Nat.reduceBEq, Nat.reduceAdd, Nat.reduceLeDiff, reduceIte, reduceCtorEq, tysA, tyA, Ty.enc, Ty.encs]
  (repeat' (first
      | refine Run.seq ?_
      | refine Run.skip ?_
      | refine Run.block ?_
      | refine Run.blk ?_
      | refine Run.scope ?_
      | refine Run.scp ?_
      | (refine Run.exit rfl ?_)
      | (refine Run.reg mixed ?_; simp -implicitDefEqProofs only [hblk2, rs_strings_Builder_WriteString, Bool.not_eq_true', Bool.not_eq_false', go_sem, eq_self, Nat.reduceEqDiff, Nat.reduceBEq, Nat.reduceAdd, Nat.reduceLeDiff, reduceIte, reduceCtorEq, tysA, tyA, Ty.enc, Ty.encs])
      | (refine Run.condM ?_; simp -implicitDefEqProofs only [hblk2, rs_strings_Builder_WriteString, Bool.not_eq_true', Bool.not_eq_false', go_sem, eq_self, Nat.reduceEqDiff, Nat.reduceBEq, Nat.reduceAdd, Nat.reduceLeDiff, reduceIte, reduceCtorEq, tysA, tyA, Ty.enc, Ty.encs])
      | (refine Run.retR g_strings_Builder_WriteString (Heap.le_refl _) ?_; simp -implicitDefEqProofs only [rs_strings_Builder_WriteString, hblk2, go_sem, eq_self, Nat.reduceEqDiff, Nat.reduceBEq, Nat.reduceAdd, Nat.reduceLeDiff, reduceIte, reduceCtorEq, tysA, tyA, Ty.enc, Ty.encs])
      | (refine xo_gs rfl (fun h => ?_) (fun h => ?_) <;> first | (cases h; done) | simp -implicitDefEqProofs only [hblk2, rs_strings_Builder_WriteString, Bool.not_eq_true', Bool.not_eq_false', go_sem, eq_self, Nat.reduceEqDiff, Nat.reduceBEq, Nat.reduceAdd, Nat.reduceLeDiff, reduceIte, reduceCtorEq, tysA, tyA, Ty.enc, Ty.encs])
      | (refine ⟨fun h => ?_, fun h => ?_⟩ <;> first | (cases h; done) | (simp -implicitDefEqProofs only [h]; done) | (try simp -implicitDefEqProofs only [h]))
      | fail))
  refine ⟨hbu.fresh, hbu.freshT, ⟨fun j cs hj => ?_, fun u hu => ?_, hle2.gt, hle2.bt⟩, ?_, .gp i 0, .own t 5 1 (byteRows (s ++ x)), ?_, .inr rfl, .inr ⟨t, rfl, by simp [hx], ?_, ?_⟩⟩
  · have hne : j ≠ i := fun e => by rw [e, hbu.fresh] at hj; cases hj
    simp [setBlk_get, hne, addTok_blk, hle2.blk j cs hj]
  · have := hle2.tok u hu
    simp [Heap.setBlk, Heap.addTok, this]
  · show σ2.bt i = _
    rw [hbt2]; exact hbu.bt
  · simp [setBlk_get, byteRows_app]
  · simp [Heap.setBlk, Heap.addTok]
  · cases h0 : σ0.tok t with
    | false => rfl
    | true => rw [hbu.le.tok t h0] at ht; cases ht

theorem bytesOf_rows : ∀ s : List UInt8, bytesOf (byteRows s) = some s
  | [] => rfl
  | b :: s => by
    have := bytesOf_rows s
    simp only [byteRows] at this
    simp only [byteRows, List.map_cons, bytesOf, this]
    have hb : (b.toNat : Int) < 256 := by have := b.toNat_lt; omega
    simp [byteOf, hb]

theorem String_ok {σ0 σ : Heap} {i : Nat} {s : List UInt8} (h : BuS σ0 i s σ) (hs : s ≠ []) :
    ACalls Tryd.prog 55 [.gp i 0] σ (fun v σ' => v = .d (.str s) ∧ σ0.le σ') := by
  refine i_strings_Builder_String (by simp) ?_
  rw [argF_1]
  obtain ⟨p, v, hb, hp, hv⟩ := h.blk
  rcases hv with ⟨rfl, rfl⟩ | ⟨t, rfl, _, ht, ht0⟩
  · exact absurd rfl hs
  obtain ⟨b, r, rfl⟩ : ∃ b r, s = b :: r := by cases s with | nil => exact absurd rfl hs | cons b r => exact ⟨b, r, rfl⟩
  have hbr : byteRows (b :: r) = [.int .u8 b.toNat] :: byteRows r := rfl
  have hby : bytesOf ([.int .u8 b.toNat] :: byteRows r) = some (b :: r) := bytesOf_rows (b :: r)
  rw [hbr] at hb
  (repeat' (first
      | refine Run.seq ?_
      | refine Run.skip ?_
      | refine Run.block ?_
      | refine Run.blk ?_
      | refine Run.scope ?_
      | refine Run.scp ?_
      | (refine Run.exit rfl ?_)
      | (refine Run.reg mixed ?_; simp -implicitDefEqProofs only [hb, hby, byteRows_length, rs_strings_Builder_String, Bool.not_eq_true', Bool.not_eq_false', go_sem, eq_self, Nat.reduceEqDiff, Nat.reduceBEq, Nat.reduceAdd, Nat.reduceLeDiff, reduceIte, reduceCtorEq, tysA, tyA, Ty.enc, Ty.encs])
      | (refine Run.condM ?_; simp -implicitDefEqProofs only [hb, hby, byteRows_length, rs_strings_Builder_String, Bool.not_eq_true', Bool.not_eq_false', go_sem, eq_self, Nat.reduceEqDiff, Nat.reduceBEq, Nat.reduceAdd, Nat.reduceLeDiff, reduceIte, reduceCtorEq, tysA, tyA, Ty.enc, Ty.encs])
      | (refine XEx.ustr (by simp only [byteRows_length, List.length_cons]) hs ht ?_; (try simp -implicitDefEqProofs only [hb, hby, byteRows_length, rs_strings_Builder_String, Bool.not_eq_true', Bool.not_eq_false', go_sem, eq_self, Nat.reduceEqDiff, Nat.reduceBEq, Nat.reduceAdd, Nat.reduceLeDiff, reduceIte, reduceCtorEq, tysA, tyA, Ty.enc, Ty.encs]))
      | (refine Run.retR g_strings_Builder_String (Heap.le_refl _) ?_; simp -implicitDefEqProofs only [rs_strings_Builder_String, hb, hby, byteRows_length, go_sem, eq_self, Nat.reduceEqDiff, Nat.reduceBEq, Nat.reduceAdd, Nat.reduceLeDiff, reduceIte, reduceCtorEq, tysA, tyA, Ty.enc, Ty.encs])
      | (refine xo_gs rfl (fun h => ?_) (fun h => ?_) <;> first | (cases h; done) | simp -implicitDefEqProofs only [hb, hby, byteRows_length, rs_strings_Builder_String, Bool.not_eq_true', Bool.not_eq_false', go_sem, eq_self, Nat.reduceEqDiff, Nat.reduceBEq, Nat.reduceAdd, Nat.reduceLeDiff, reduceIte, reduceCtorEq, tysA, tyA, Ty.enc, Ty.encs])
      | (refine ⟨fun h => ?_, fun h => ?_⟩ <;> first | (cases h; done) | (simp -implicitDefEqProofs only [h]; done) | (try simp -implicitDefEqProofs only [h]))
      | fail))
  refine ⟨h.le.blk, fun u hu => ?_, h.le.gt, h.le.bt⟩
  have hne : u ≠ t := fun e => by rw [e, ht0] at hu; cases hu
  simp [Heap.delTok, hne, h.le.tok u hu]
end Go.Ab
