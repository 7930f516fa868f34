/- Contracts of the library functions of this program over abstract states. Conditions: none. -/
import Derived.Test.YtdbpmhfepfpldaaDoorXBr2
import Derived.Test.YtdbpmhfepfpldaaDoorXSh
import Derived.Test.YtdbpmhfepfpldaaDoorXCdF
set_option linter.unusedSimpArgs false
set_option linter.unusedVariables false
namespace Go.Proofs
open Go.Shelf Go.RowKit Go.Lib Go.Sort

set_option maxHeartbeats 1000000 in
theorem Tryd.closure87 (x y : Int × Int) (W : World) : Calls Tryd.prog 87 #[.agg #[.int .i64 x.1, .int .i64 x.2], .agg #[.int .i64 y.1, .int .i64 y.2]] W fun e w' => e = .returned (.int .i64 (Lib.compareInt x.1 y.1)) ∧ ∃ q os', w' = grow (W.drewN q) os' := by
  have hcon := fun W' => AnyG.cmp_Compare_int Tryd.cmpInt x.1 y.1 W'
  change ∀ W', Calls Tryd.prog 64 _ _ _ at hcon
  generalize Lib.compareInt x.1 y.1 = r at hcon ⊢
  go_enter Tryd.func87, Tryd.ntmps87
  go_wp2_with (go_at_call 64; refine (hcon _).mono ?_; rintro e w' ⟨rfl, rfl⟩)
  go_ret
  exact ⟨rfl, 0, _, by rw [alloc_eq_grow, alloc_eq_grow, grow_grow]; rfl⟩
end Go.Proofs
namespace Go.Ab
open Go.RowKit Go.Sort Go.Proofs

theorem sort_ok {σ : Heap} {i e : Nat} {l : List (Int × Int)} (hsz : l.length ≤ 1000000) (hb : σ.blk i = some (prs l)) :
    ACalls Tryd.prog 86 [.ms i l.length 2 e, .fn 87 [] []] σ (fun v σ' => v = .tup [] ∧ ∃ l', l'.Perm l ∧ l'.Pairwise (fun a b => a.1 ≤ b.1) ∧ σ' = σ.setBlk i (prs l')) := by
  refine sort_ms (fun blk cap d w hH hblk hsz => ?_) (by omega) hb
  have eg : ∀ args w, (callFunc 87 args).run Tryd.prog w = .ok (.enter 87 args) w := enters_of Tryd.func87 (by kernel_rfl) rfl
  exact AnyQ.slices_SortFunc Tryd.sortLT 2 Tryd.isAgg49 Tryd.sizeOf49 encI (fun _ => rfl) (fun x v hv => by simp [encI] at hv; rcases hv with rfl | rfl <;> rfl) cmpF cmpF_swo 87 #[] blk 0 cap d w eg (fun _ _ _ _ x y => Tryd.closure87 x y _) hH hblk hsz

def powA : Array Value := (Lib.pow10Tab.map fun z => Value.int .u64 z).toArray
def powB : Nat := 0

theorem pow_named : Tryd.prog.globalNamed "internal/strconv.uint64pow10" = some powB := by kernel_rfl

theorem strconv_Itoa_ok (n : Int) (σ : Heap) (ht : σ.gt powB = some powA) : ACalls Tryd.prog 54 [.d (.int .i64 n)] σ (fun v σ' => v = .d (.str (Lib.itoa n)) ∧ σ' = σ) := by
  refine ACalls.of_grow (fun base g Pr w0 w vs hr hv => ?_)
  obtain ⟨v, rfl, hvv⟩ := hv.one
  obtain ⟨rfl, h⟩ := hvv.int_inv
  have h0 : -9223372036854775808 ≤ n := h.1
  have h1 : n ≤ 9223372036854775807 := h.2
  exact ⟨_, .str (by have := Lib.itoa_length_le n h0 h1; have : (21 : Nat) ≤ maxLen := by decide +kernel
                     omega), Tryd.strconv_Itoa n h0 h1 w (hr.tab pow_named ht)⟩
theorem strconv_FormatInt_ok (n : Int) (σ : Heap) (ht : σ.gt powB = some powA) : ACalls Tryd.prog 53 [.d (.int .i64 n), .d (.int .i64 10)] σ (fun v σ' => v = .d (.str (Lib.itoa n)) ∧ σ' = σ) := by
  refine ACalls.of_grow (fun base g Pr w0 w vs hr hv => ?_)
  obtain ⟨v, u, rfl, hvv, hu⟩ := hv.two
  obtain ⟨rfl, h⟩ := hvv.int_inv
  obtain ⟨rfl, _⟩ := hu.int_inv
  have h0 : -9223372036854775808 ≤ n := h.1
  have h1 : n ≤ 9223372036854775807 := h.2
  exact ⟨_, .str (by have := Lib.itoa_length_le n h0 h1; have : (21 : Nat) ≤ maxLen := by decide +kernel
                     omega), Tryd.strconv_FormatInt_10 n h0 h1 w (hr.tab pow_named ht)⟩

theorem copyCheck_used_ok {σ : Heap} {i : Nat} {s : AV} (hb : σ.blk i = some [.gp i 0, s]) (ht : σ.bt i = some (2, 73)) : ACalls Tryd.prog 82 [.gp i 0] σ (fun v σ' => v = .tup [] ∧ σ' = σ) :=
  check_used (fun b w h => Any.Builder_copyCheck_used Tryd.lays240 Tryd.Builder_X72_240 b w h) hb ht
theorem copyCheck_fresh_ok {σ : Heap} {i : Nat} {s : AV} (hb : σ.blk i = some [.nilp, s]) (ht : σ.bt i = some (2, 73)) : ACalls Tryd.prog 82 [.gp i 0] σ (fun v σ' => v = .tup [] ∧ σ' = σ.setBlk i [.gp i 0, s]) :=
  check_fresh (fun b w h1 h2 h3 => Any.Builder_copyCheck_fresh Tryd.lays240 Tryd.Builder_X72_240 b w h1 h2 h3) hb ht
end Go.Ab
