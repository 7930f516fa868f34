/- Rules for walks that split and call by themselves. Conditions: none. -/
import Derived.Test.YtdbpmhfepfpldaaDoorXPx
set_option linter.unusedSimpArgs false
set_option linter.unusedVariables false
namespace Go.Ab
open Go.RowKit
variable {P : Program} {K : Kont} {F : Fm} {L : Lm} {σ : Heap}

theorem put_same {s : Nat} {v : AV} (h : F s = v) : put s v F = F := by
  funext t
  simp only [put]
  split
  · rename_i e; rw [← h]; first | (subst e; rfl) | (rw [e])
  · rfl

theorem xo_gs {d : Option Nat} {o : O} {s : Nat} {want b : Bool} {r : List Q} (hF : F s = .d (.bool b))
    (h1 : b = true → XOps P K (⟨d, o, some (s, want)⟩ :: r) (put s (.d (.bool true)) F) L σ) (h2 : b = false → XOps P K (⟨d, o, some (s, want)⟩ :: r) (put s (.d (.bool false)) F) L σ) :
    XOps P K (⟨d, o, some (s, want)⟩ :: r) F L σ := by
  cases b
  · have := h2 rfl; rw [put_same hF] at this; exact this
  · have := h1 rfl; rw [put_same hF] at this; exact this

theorem XCall.det {d : Option Nat} {f : FuncId} {args : List AV} {v : AV} (h : ACalls P f args σ (fun v' σ' => v' = v ∧ σ' = σ)) (hk : K (putO d v F) L σ) (hn : args.all AV.noLp = true := by rfl) : XCall P f args d K F L σ :=
  XCall.mk hn h (fun v' σ' ⟨e1, e2⟩ => by subst e1; subst e2; exact hk)

theorem wrap_nat {n : Nat} (h : n ≤ 9000000000000000000) : IntKind.i64.wrap (n : Int) = n := wrap_pos (by omega) (by omega)
theorem wrap_add {a b : Nat} (h : a + b ≤ 9000000000000000000) : IntKind.i64.wrap ((a : Int) + (b : Int)) = ((a + b : Nat) : Int) := by
  rw [wrap_pos (by omega) (by omega)]; omega
theorem wrap_succ {a : Nat} (h : a + 1 ≤ 9000000000000000000) : IntKind.i64.wrap ((a : Int) + 1) = ((a + 1 : Nat) : Int) := by
  rw [wrap_pos (by omega) (by omega)]; omega

theorem lt_t {i n : Nat} (h : i < n) : decide ((i : Int) < (n : Int)) = true := by simp [h]
theorem lt_f {i n : Nat} (h : ¬ i < n) : decide ((i : Int) < (n : Int)) = false := by simp; omega

theorem sidx_at {s : List UInt8} {i : Nat} {b : UInt8} (h : s[i]? = some b) (k : IntKind) : sidxA (.d (.str s)) (.d (.int k (i : Int))) = some (.d (.int .u8 b.toNat)) := by
  simp [sidxA, h]

theorem ssl_hi {s : List UInt8} {n : Nat} (h : n ≤ s.length) : sslA (.d (.str s)) none (some (.d (.int .i64 (n : Int)))) = some (.d (.str (s.take n))) := by
  simp [sslA, bndA, natA, h]
theorem ssl_lo {s : List UInt8} {n : Nat} (h : n ≤ s.length) : sslA (.d (.str s)) (some (.d (.int .i64 (n : Int)))) none = some (.d (.str (s.drop n))) := by
  simp [sslA, bndA, natA, h]
theorem ssl_lh {s : List UInt8} {n m : Nat} (h : n ≤ m) (h2 : m ≤ s.length) : sslA (.d (.str s)) (some (.d (.int .i64 (n : Int)))) (some (.d (.int .i64 (m : Int)))) = some (.d (.str ((s.take m).drop n))) := by
  simp [sslA, bndA, natA, h, h2]
theorem ssl_2 {b c : UInt8} {s : List UInt8} : sslA (.d (.str (b :: c :: s))) none (some (.d (.int .i64 2))) = some (.d (.str [b, c])) := by
  rw [show (2 : Int) = ((2 : Nat) : Int) from rfl, ssl_hi (by simp)]; rfl
theorem ssl_1 {b : UInt8} {s : List UInt8} : sslA (.d (.str (b :: s))) none (some (.d (.int .i64 1))) = some (.d (.str [b])) := by
  rw [show (1 : Int) = ((1 : Nat) : Int) from rfl, ssl_hi (by simp)]; rfl

theorem u8eq (b x : UInt8) : ((b.toNat : Int) == (x.toNat : Int)) = (b == x) := by
  rw [Bool.eq_iff_iff]; simp only [beq_iff_eq, Int.natCast_inj, UInt8.toNat_inj]

/-- Only some slots are looked at. -/
theorem Run.prune {cx : Cx} {KK : AV → Heap → Prop} {k : List CI} (ks : List Nat) (h : Run cx KK k (keep ks F) (keepL ks L) σ) : Run cx KK k F L σ :=
  fun items base g lam Pr a w0 w b cs hi hf hb hk => h items base g lam Pr a w0 w b cs hi (hf.kept ks) hb hk

attribute [go_sem] convA

end Go.Ab
