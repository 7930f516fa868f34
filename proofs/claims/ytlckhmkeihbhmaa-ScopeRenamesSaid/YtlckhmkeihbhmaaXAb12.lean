/- Equations that run compact code at the abstract level. Conditions: none. -/
import Derived.Test.YtlckhmkeihbhmaaXAb11
set_option linter.unusedSimpArgs false
namespace Go.Ab
open Go.RowKit
variable {P : Program} {K : Kont} {F : Fm} {L : Lm} {σ : Heap} {r : List Q}
def E : Lm := fun _ => none
def putLO (k : Nat) (o : Option (List AV)) (L : Lm) : Lm := fun s => if s = k then o else L s
theorem put_get (d : Nat) (v : AV) (F : Fm) (s : Nat) : put d v F s = if s = d then v else F s := rfl
theorem putL_get (d : Nat) (cs : List AV) (L : Lm) (s : Nat) : putL d cs L s = if s = d then some cs else L s := rfl
theorem E_get (s : Nat) : E s = none := rfl
theorem U_get (s : Nat) : U s = .undef := rfl
theorem keep_nil (F : Fm) : keep [] F = U := rfl
theorem keep_cons (k : Nat) (ks : List Nat) (F : Fm) : keep (k :: ks) F = put k (F k) (keep ks F) := by
  funext s
  simp only [keep, put, List.mem_cons]
  by_cases h : s = k
  · subst h; simp
  · simp [h]
theorem keepL_nil (L : Lm) : keepL [] L = E := rfl
theorem keepL_cons (k : Nat) (ks : List Nat) (L : Lm) : keepL (k :: ks) L = putLO k (L k) (keepL ks L) := by
  funext s
  simp only [keepL, putLO, List.mem_cons]
  by_cases h : s = k
  · subst h; simp
  · simp [h]
theorem putLO_some (k : Nat) (cs : List AV) (L : Lm) : putLO k (some cs) L = putL k cs L := rfl
theorem putLO_E (k : Nat) : putLO k none E = E := by funext s; simp [putLO, E]
theorem putLO_putL (k j : Nat) (cs : List AV) (L : Lm) : putLO k none (putL j cs L) = if j = k then putLO k none L else putL j cs (putLO k none L) := by
  funext s
  by_cases h : j = k
  · subst h
    simp only [if_true, putLO, putL]
    by_cases h2 : s = j <;> simp [h2]
  · simp only [h, if_false, putLO, putL]
    by_cases h2 : s = k
    · have h3 : s ≠ j := by omega
      rw [if_pos h2, if_neg h3, if_pos h2]
    · rw [if_neg h2]
      by_cases h3 : s = j
      · rw [if_pos h3, if_pos h3]
      · rw [if_neg h3, if_neg h3, if_neg h2]
theorem putL_putL (k : Nat) (cs ds : List AV) (L : Lm) : putL k cs (putL k ds L) = putL k cs L := by
  funext s; simp only [putL]; split <;> rfl
theorem xv_t (F : Fm) (n : Nat) : xv F (.t n) = F n := rfl
theorem xv_c (F : Fm) (v : AV) : xv F (.c v) = v := rfl
theorem argF_1 (a : AV) : argF [a] = put 0 a U := by
  funext s; simp only [argF, put, U]; cases s <;> simp
theorem argF_2 (a b : AV) : argF [a, b] = put 0 a (put 1 b U) := by
  funext s; simp only [argF, put, U]
  match s with | 0 => rfl | 1 => rfl | n + 2 => simp
theorem argF_3 (a b c : AV) : argF [a, b, c] = put 0 a (put 1 b (put 2 c U)) := by
  funext s; simp only [argF, put, U]
  match s with | 0 => rfl | 1 => rfl | 2 => rfl | n + 3 => simp
theorem argF_4 (a b c d : AV) : argF [a, b, c, d] = put 0 a (put 1 b (put 2 c (put 3 d U))) := by
  funext s; simp only [argF, put, U]
  match s with | 0 => rfl | 1 => rfl | 2 => rfl | 3 => rfl | n + 4 => simp
theorem argF_5 (a b c d e : AV) : argF [a, b, c, d, e] = put 0 a (put 1 b (put 2 c (put 3 d (put 4 e U)))) := by
  funext s; simp only [argF, put, U]
  match s with | 0 => rfl | 1 => rfl | 2 => rfl | 3 => rfl | 4 => rfl | n + 5 => simp
theorem purge_U (k : Nat) : purge k U = U := by funext s; simp [purge, U, AV.lpOf]
theorem purge_put (k d : Nat) (v : AV) (F : Fm) : purge k (put d v F) = put d (if v.lpOf k then .undef else v) (purge k F) := by
  funext s
  simp only [purge, put]
  by_cases h : s = d <;> simp [h]
theorem lpOf_d (k : Nat) (x : DV) : (AV.d x).lpOf k = false := rfl
theorem lpOf_nils (k : Nat) : AV.nils.lpOf k = false := rfl
theorem lpOf_own (k t e s : Nat) (r : List (List DV)) : (AV.own t e s r).lpOf k = false := rfl
theorem lpOf_clip (k : Nat) (r : List (List DV)) : (AV.clip r).lpOf k = false := rfl
theorem lpOf_agg (k : Nat) (r : List AV) : (AV.agg r).lpOf k = false := rfl
theorem lpOf_lp (k j o : Nat) : (AV.lp j o).lpOf k = (j == k) := rfl
theorem lpOf_gp (k j o : Nat) : (AV.gp j o).lpOf k = false := rfl
theorem lpOf_ep (k o : Nat) (r : List DV) : (AV.ep r o).lpOf k = false := rfl
theorem lpOf_nilp (k : Nat) : AV.nilp.lpOf k = false := rfl
theorem lpOf_ms (k i n s e : Nat) : (AV.ms i n s e).lpOf k = false := rfl
theorem lpOf_mv (k : Nat) (i o n s e : Nat) : (AV.mv i o n s e).lpOf k = false := rfl
theorem lpOf_bp (k : Nat) (t e : Nat) (s : List UInt8) : (AV.bp t e s).lpOf k = false := rfl
theorem lpOf_nilf (k : Nat) : AV.nilf.lpOf k = false := rfl
theorem lpOf_fn (k : Nat) (f : FuncId) (x y : List AV) : (AV.fn f x y).lpOf k = false := rfl
theorem lpOf_tup (k : Nat) (x : List AV) : (AV.tup x).lpOf k = false := rfl
theorem lpOf_undef (k : Nat) : AV.undef.lpOf k = false := rfl
theorem cells_d (x : DV) : AV.cells (AV.d x) = [(AV.d x)] := rfl
theorem cells_nils  : AV.cells AV.nils = [AV.nils] := rfl
theorem cells_own (t e s : Nat) (r : List (List DV)) : AV.cells (AV.own t e s r) = [(AV.own t e s r)] := rfl
theorem cells_clip (r : List (List DV)) : AV.cells (AV.clip r) = [(AV.clip r)] := rfl
theorem cells_agg (r : List AV) : AV.cells (AV.agg r) = r := rfl
theorem cells_lp (j o : Nat) : AV.cells (AV.lp j o) = [(AV.lp j o)] := rfl
theorem cells_gp (j o : Nat) : AV.cells (AV.gp j o) = [(AV.gp j o)] := rfl
theorem cells_ep (r : List DV) (o : Nat) : AV.cells (AV.ep r o) = [(AV.ep r o)] := rfl
theorem cells_nilp  : AV.cells AV.nilp = [AV.nilp] := rfl
theorem cells_ms (i n s e : Nat) : AV.cells (AV.ms i n s e) = [(AV.ms i n s e)] := rfl
theorem cells_mv (i o n s e : Nat) : AV.cells (AV.mv i o n s e) = [AV.mv i o n s e] := rfl
theorem cells_bp (t e : Nat) (s : List UInt8) : AV.cells (AV.bp t e s) = [AV.bp t e s] := rfl
theorem cells_nilf : AV.cells AV.nilf = [AV.nilf] := rfl
theorem cells_fn (f : FuncId) (x y : List AV) : AV.cells (AV.fn f x y) = [(AV.fn f x y)] := rfl
theorem cells_tup (x : List AV) : AV.cells (AV.tup x) = [(AV.tup x)] := rfl
theorem cells_undef  : AV.cells AV.undef = [AV.undef] := rfl
theorem isCell_d (x : DV) : AV.isCell (AV.d x) = true := rfl
theorem isCell_nils  : AV.isCell AV.nils = true := rfl
theorem isCell_own (t e s : Nat) (r : List (List DV)) : AV.isCell (AV.own t e s r) = true := rfl
theorem isCell_clip (r : List (List DV)) : AV.isCell (AV.clip r) = true := rfl
theorem isCell_agg (r : List AV) : AV.isCell (AV.agg r) = false := rfl
theorem isCell_lp (j o : Nat) : AV.isCell (AV.lp j o) = false := rfl
theorem isCell_gp (j o : Nat) : AV.isCell (AV.gp j o) = true := rfl
theorem isCell_ep (r : List DV) (o : Nat) : AV.isCell (AV.ep r o) = true := rfl
theorem isCell_nilp  : AV.isCell AV.nilp = true := rfl
theorem isCell_ms (i n s e : Nat) : AV.isCell (AV.ms i n s e) = true := rfl
theorem isCell_mv (i o n s e : Nat) : AV.isCell (AV.mv i o n s e) = true := rfl
theorem isCell_bp (t e : Nat) (s : List UInt8) : AV.isCell (AV.bp t e s) = true := rfl
theorem isCell_nilf : AV.isCell AV.nilf = true := rfl
theorem isCell_fn (f : FuncId) (x y : List AV) : AV.isCell (AV.fn f x y) = true := rfl
theorem isCell_tup (x : List AV) : AV.isCell (AV.tup x) = false := rfl
theorem isCell_undef  : AV.isCell AV.undef = false := rfl
theorem noLp_d (x : DV) : AV.noLp (AV.d x) = true := rfl
theorem noLp_nils  : AV.noLp AV.nils = true := rfl
theorem noLp_own (t e s : Nat) (r : List (List DV)) : AV.noLp (AV.own t e s r) = true := rfl
theorem noLp_clip (r : List (List DV)) : AV.noLp (AV.clip r) = true := rfl
theorem noLp_agg (r : List AV) : AV.noLp (AV.agg r) = true := rfl
theorem noLp_lp (j o : Nat) : AV.noLp (AV.lp j o) = false := rfl
theorem noLp_gp (j o : Nat) : AV.noLp (AV.gp j o) = true := rfl
theorem noLp_ep (r : List DV) (o : Nat) : AV.noLp (AV.ep r o) = true := rfl
theorem noLp_nilp  : AV.noLp AV.nilp = true := rfl
theorem noLp_ms (i n s e : Nat) : AV.noLp (AV.ms i n s e) = true := rfl
theorem noLp_mv (i o n s e : Nat) : AV.noLp (AV.mv i o n s e) = true := rfl
theorem noLp_bp (t e : Nat) (s : List UInt8) : AV.noLp (AV.bp t e s) = true := rfl
theorem noLp_nilf : AV.noLp AV.nilf = true := rfl
theorem noLp_fn (f : FuncId) (x y : List AV) : AV.noLp (AV.fn f x y) = true := rfl
theorem noLp_tup (x : List AV) : AV.noLp (AV.tup x) = true := rfl
theorem noLp_undef  : AV.noLp AV.undef = true := rfl
theorem dv_d (x : DV) : AV.dv (AV.d x) = some x := rfl
theorem dv_nils  : AV.dv AV.nils = some (.sl []) := rfl
theorem dv_own (t e s : Nat) (r : List (List DV)) : AV.dv (AV.own t e s r) = some (.sl r) := rfl
theorem dv_clip (r : List (List DV)) : AV.dv (AV.clip r) = some (.sl r) := rfl
theorem dv_agg (r : List AV) : AV.dv (AV.agg r) = none := rfl
theorem dv_lp (j o : Nat) : AV.dv (AV.lp j o) = none := rfl
theorem dv_gp (j o : Nat) : AV.dv (AV.gp j o) = none := rfl
theorem dv_ep (r : List DV) (o : Nat) : AV.dv (AV.ep r o) = none := rfl
theorem dv_nilp  : AV.dv AV.nilp = some .nilp := rfl
theorem dv_mv (i o n s e : Nat) : AV.dv (AV.mv i o n s e) = none := rfl
theorem dv_bp (t e : Nat) (s : List UInt8) : AV.dv (AV.bp t e s) = none := rfl
theorem dv_nilf  : AV.dv AV.nilf = none := rfl
theorem dv_ms (i n s e : Nat) : AV.dv (AV.ms i n s e) = none := rfl
theorem dv_fn (f : FuncId) (x y : List AV) : AV.dv (AV.fn f x y) = none := rfl
theorem dv_tup (x : List AV) : AV.dv (AV.tup x) = none := rfl
theorem dv_undef  : AV.dv AV.undef = none := rfl
theorem rows_nils  : AV.rows AV.nils = some [] := rfl
theorem rows_own (t e s : Nat) (r : List (List DV)) : AV.rows (AV.own t e s r) = some r := rfl
theorem rows_clip (r : List (List DV)) : AV.rows (AV.clip r) = some r := rfl
theorem rows_d (r : List (List DV)) : AV.rows (AV.d (.sl r)) = some r := rfl
theorem lenA_nils  : lenA AV.nils = some (.d (.int .i64 0)) := rfl
theorem lenA_own (t e s : Nat) (r : List (List DV)) : lenA (AV.own t e s r) = some (.d (.int .i64 r.length)) := rfl
theorem lenA_clip (r : List (List DV)) : lenA (AV.clip r) = some (.d (.int .i64 r.length)) := rfl
theorem lenA_ms (i n s e : Nat) : lenA (AV.ms i n s e) = some (.d (.int .i64 n)) := rfl
theorem lenA_mv (i o n s e : Nat) : lenA (AV.mv i o n s e) = some (.d (.int .i64 n)) := rfl
theorem lenA_d (r : List (List DV)) : lenA (AV.d (.sl r)) = some (.d (.int .i64 r.length)) := rfl
theorem xo_nil : XOps P K [] F L σ = K F L σ := rfl
theorem xt_one (b : Bool) (q : Q) (t : QT) : XT P K b (.one q t) F L σ = XOps P (XT P K false t) [q] F L σ := by cases b <;> rfl
theorem xt_alt (b : Bool) (q : Q) (t s : QT) : XT P K b (.alt q t s) F L σ = (XOps P (XT P K false t) [q] F L σ ∧ XT P K true s F L σ) := by cases b <;> rfl
theorem xt_done : XT P K false .done F L σ = K F L σ := rfl
theorem xt_over : XT P K true .done F L σ = True := rfl
theorem xpv_some (v : AV) (d : Nat) : XPv (some v) (some d) K F L σ = K (put d v F) L σ := rfl
theorem xo_mv (d : Nat) (x : X) : XOps P K (⟨some d, .mv x, none⟩ :: r) F L σ = XOps P K r (put d (xv F x) F) L σ := rfl
theorem xo_pick (d : Option Nat) (x y z : X) : XOps P K (⟨d, .pick x y z, none⟩ :: r) F L σ = XPv (pickA (xv F x) (xv F y) (xv F z)) d (XOps P K r) F L σ := rfl
theorem xo_fld (d : Option Nat) (x : X) (o : Nat) : XOps P K (⟨d, .fld x o, none⟩ :: r) F L σ = XPv (fldA (xv F x) o) d (XOps P K r) F L σ := rfl
theorem xo_ld (d : Option Nat) (x : X) (n : Option Nat) : XOps P K (⟨d, .ld x n, none⟩ :: r) F L σ = XPv (ldA L σ (xv F x) n) d (XOps P K r) F L σ := rfl
theorem xo_ix (d : Option Nat) (x y : X) (n : Nat) : XOps P K (⟨d, .ix x y n, none⟩ :: r) F L σ = XPv (ixA (xv F x) (xv F y) n) d (XOps P K r) F L σ := rfl
theorem xo_sidx (d : Option Nat) (x y : X) : XOps P K (⟨d, .sidx x y, none⟩ :: r) F L σ = XPv (sidxA (xv F x) (xv F y)) d (XOps P K r) F L σ := rfl
theorem xo_len (d : Option Nat) (x : X) : XOps P K (⟨d, .len x, none⟩ :: r) F L σ = XPv (lenA (xv F x)) d (XOps P K r) F L σ := rfl
theorem xo_slen (d : Option Nat) (x : X) : XOps P K (⟨d, .slen x, none⟩ :: r) F L σ = XPv (slenA (xv F x)) d (XOps P K r) F L σ := rfl
theorem xo_bin (d : Option Nat) (op : BinOp) (x y : X) : XOps P K (⟨d, .bin op x y, none⟩ :: r) F L σ = XPv (binA op (xv F x) (xv F y)) d (XOps P K r) F L σ := rfl
theorem xo_binb (d : Option Nat) (op : BinOp) (x y : X) : XOps P K (⟨d, .binb op x y, none⟩ :: r) F L σ = XPv (binbA op (xv F x) (xv F y)) d (XOps P K r) F L σ := rfl
theorem xo_un (d : Option Nat) (op : UnOp) (x : X) : XOps P K (⟨d, .un op x, none⟩ :: r) F L σ = XPv (unA op (xv F x)) d (XOps P K r) F L σ := rfl
theorem xo_conv (d : Option Nat) (k : IntKind) (x : X) : XOps P K (⟨d, .conv k x, none⟩ :: r) F L σ = XPv (convA k (xv F x)) d (XOps P K r) F L σ := rfl
theorem xo_bld (d : Option Nat) (z : List AV) (ps : List (Nat × Nat × X)) : XOps P K (⟨d, .bld z ps, none⟩ :: r) F L σ = XPv ((fillA z F ps).map .agg) d (XOps P K r) F L σ := rfl
theorem xo_bsl (d : Option Nat) (s n : Nat) (z : List AV) (ps : List (Nat × Nat × X)) : XOps P K (⟨d, .bsl s n z ps, none⟩ :: r) F L σ = XPv (((fillA z F ps).bind dvs).map fun l => .d (.sl (chunk s n l))) d (XOps P K r) F L σ := rfl
theorem xo_mkf (d : Option Nat) (f : FuncId) (x y : List X) : XOps P K (⟨d, .mkf f x y, none⟩ :: r) F L σ = XPv (if (xvs F x ++ xvs F y).all AV.noLp then some (.fn f (xvs F x) (xvs F y)) else none) d (XOps P K r) F L σ := rfl
theorem xo_ext (d : Option Nat) (x : X) (i : Nat) : XOps P K (⟨d, .ext x i, none⟩ :: r) F L σ = XPv (extA (xv F x) i) d (XOps P K r) F L σ := rfl
theorem xo_nck (d : Option Nat) (x : X) : XOps P K (⟨d, .nck x, none⟩ :: r) F L σ = XPv (nckA (xv F x)) d (XOps P K r) F L σ := rfl
theorem xo_mm (d : Option Nat) (b : Bool) (x y : X) : XOps P K (⟨d, .mm b x y, none⟩ :: r) F L σ = XPv (mmA b (xv F x) (xv F y)) d (XOps P K r) F L σ := rfl
theorem xo_box (d : Nat) (x : X) : XOps P K (⟨some d, .box x false, none⟩ :: r) F L σ = (cellsOk (xv F x).cells = true ∧ XOps P K r (put d (.lp d 0) (purge d F)) (putL d (xv F x).cells L) σ) := rfl
theorem xo_al (d : Nat) (z : List AV) : XOps P K (⟨some d, .al z false, none⟩ :: r) F L σ = (cellsOk z = true ∧ XOps P K r (put d (.lp d 0) (purge d F)) (putL d z L) σ) := rfl
theorem xo_boxg (d : Nat) (x : X) : XOps P K (⟨some d, .box x true, none⟩ :: r) F L σ = (cellsOk (xv F x).cells = true ∧ ∀ i, σ.blk i = none → XOps P K r (put d (.gp i 0) F) L (σ.setBlk i (xv F x).cells)) := rfl
theorem xo_alg (d : Nat) (z : List AV) : XOps P K (⟨some d, .al z true, none⟩ :: r) F L σ = (cellsOk z = true ∧ ∀ i, σ.blk i = none → XOps P K r (put d (.gp i 0) F) L (σ.setBlk i z)) := rfl
def XStO (K : Kont) (F : Fm) : Option (Lm × Heap) → Prop
  | some (L', σ') => K F L' σ'
  | none => False
theorem xst_some (F : Fm) (L' : Lm) (σ' : Heap) : XStO K F (some (L', σ')) = K F L' σ' := rfl
theorem xo_st (x v : X) (n : Nat) : XOps P K (⟨none, .st x v n, none⟩ :: r) F L σ = (cellsOk (xv F v).cells = true ∧ (xv F v).cells.length = n ∧ XStO (XOps P K r) F (stA L σ (xv F v).cells (xv F x))) := by
  show XSt _ _ _ _ _ _ _ _ = _
  unfold XSt XStO
  simp only [true_and]
  cases stA L σ (xv F v).cells (xv F x) <;> rfl
theorem xo_g (d : Option Nat) (o : O) (s : Nat) (want : Bool) : XOps P K (⟨d, o, some (s, want)⟩ :: r) F L σ = XG (gdV want (F s)) (XOps P K (⟨d, o, none⟩ :: r) F L σ) (XOps P K r (putO d (.tup []) F) L σ) := rfl
theorem xo_gt (d : Option Nat) (o : O) (s : Nat) (want : Bool) (h : gdV want (F s) = some true) : XOps P K (⟨d, o, some (s, want)⟩ :: r) F L σ = XOps P K (⟨d, o, none⟩ :: r) F L σ := by rw [xo_g, h]; rfl
theorem xo_gf (d : Option Nat) (o : O) (s : Nat) (want : Bool) (h : gdV want (F s) = some false) : XOps P K (⟨d, o, some (s, want)⟩ :: r) F L σ = XOps P K r (putO d (.tup []) F) L σ := by rw [xo_g, h]; rfl
theorem xg_t (y n : Prop) : XG (some true) y n = y := rfl
theorem xg_f (y n : Prop) : XG (some false) y n = n := rfl
theorem gdV_b (want b : Bool) : gdV want (.d (.bool b)) = some (b == want) := rfl
theorem gdV_s (want : Bool) : gdV want (.tup []) = some false := rfl
theorem xg_split {b : Bool} {y n : Prop} (h1 : b = true → y) (h2 : b = false → n) : XG (some b) y n := by
  cases b
  · exact h2 rfl
  · exact h1 rfl
theorem putO_some (d : Nat) (v : AV) (F : Fm) : putO (some d) v F = put d v F := rfl
theorem xo_call (d : Option Nat) (f : FuncId) (args : List X) : XOps P K (⟨d, .call f args, none⟩ :: r) F L σ = XCall P f (xvs F args) d (XOps P K r) F L σ := rfl
theorem xo_pcall (d : Option Nat) (f : FuncId) (args : List X) : XOps P K (⟨d, .pcall f args, none⟩ :: r) F L σ = XPCall P f (xvs F args) d (XOps P K r) F L σ := rfl
theorem xo_app (d : Option Nat) (e s b : Nat) (x y : X) : XOps P K (⟨d, .app e s b x y, none⟩ :: r) F L σ = XApp e s b (xv F x) (xv F y) d (XOps P K r) F L σ := rfl
def XCallV (P : Program) (x : AV) (args : List AV) (dst : Option Nat) (K : Kont) (F : Fm) (L : Lm) (σ : Heap) : Prop :=
  ∃ f first caps, x = .fn f first caps ∧ hasBody P f = true ∧ XCall P f (first ++ args ++ caps) dst K F L σ
theorem xo_callv (d : Option Nat) (x : X) (args : List X) : XOps P K (⟨d, .callv x args, none⟩ :: r) F L σ = XCallV P (xv F x) (xvs F args) d (XOps P K r) F L σ := rfl
theorem xo_msl (d : Option Nat) (e s b : Nat) (z : List AV) (x y : X) : XOps P K (⟨d, .msl e s b z x y, none⟩ :: r) F L σ = XMsl e s b z (xv F x) (xv F y) d (XOps P K r) F L σ := rfl
theorem xo_appm (d : Option Nat) (e s b : Nat) (x y : X) : XOps P K (⟨d, .appm e s b x y, none⟩ :: r) F L σ = XAppM e s b (xv F x) (xv F y) d (XOps P K r) F L σ := rfl
theorem xo_trn (d : Option Nat) (x y : X) : XOps P K (⟨d, .trn x y, none⟩ :: r) F L σ = XTrn (xv F x) (xv F y) d (XOps P K r) F L σ := rfl
theorem xo_bslm (d : Option Nat) (e s n : Nat) (z : List AV) (ps : List (Nat × Nat × X)) : XOps P K (⟨d, .bslm e s n z ps, none⟩ :: r) F L σ = XBslM e s n (fillA z F ps) d (XOps P K r) F L σ := rfl
theorem xo_ldl (d : Option Nat) (x : X) (n : Option Nat) : XOps P K (⟨d, .ldl x n, none⟩ :: r) F L σ = XPv (ldlA L (xv F x) n) d (XOps P K r) F L σ := rfl
theorem xo_fd (d : Option Nat) (x : X) (o : Nat) (n : Option Nat) : XOps P K (⟨d, .fd x o n, none⟩ :: r) F L σ = XPv (fdA (xv F x) o n) d (XOps P K r) F L σ := rfl
theorem xo_ssl (d : Option Nat) (x : X) (a b : Option X) : XOps P K (⟨d, .ssl x a b, none⟩ :: r) F L σ = XPv (sslA (xv F x) (a.map (xv F)) (b.map (xv F))) d (XOps P K r) F L σ := rfl
theorem xo_sls (d : Option Nat) (x : X) (a b c : Option X) (n : Nat) : XOps P K (⟨d, .sls x a b c n, none⟩ :: r) F L σ = XPv (slsA (xv F x) (a.map (xv F)) (b.map (xv F)) (c.map (xv F)) n) d (XOps P K r) F L σ := rfl
theorem xo_pnil (d : Option Nat) (ne : Bool) (x : X) : XOps P K (⟨d, .pnil ne x, none⟩ :: r) F L σ = XPv (pnilA ne (xv F x)) d (XOps P K r) F L σ := rfl
theorem xo_steq (d : Option Nat) (ne : Bool) (n : Nat) (x y : X) : XOps P K (⟨d, .steq ne n x y, none⟩ :: r) F L σ = XPv (steqA ne n (xv F x) (xv F y)) d (XOps P K r) F L σ := rfl
theorem xo_mm3 (d : Option Nat) (b : Bool) (x y z : X) : XOps P K (⟨d, .mm3 b x y z, none⟩ :: r) F L σ = XPv ((mmA b (xv F x) (xv F y)).bind fun v => mmA b v (xv F z)) d (XOps P K r) F L σ := rfl
theorem xo_boxi (d : Option Nat) (x : X) : XOps P K (⟨d, .boxi x, none⟩ :: r) F L σ = XPv ((dvs (xv F x).cells).map fun ds => .d (.ptr ds)) d (XOps P K r) F L σ := rfl
theorem xo_ex (d : Option Nat) (k : EK) (xs : List X) : XOps P K (⟨d, .ex k xs, none⟩ :: r) F L σ = XEx k (xvs F xs) d (XOps P K r) F L σ := rfl
theorem xex_cap (d : Option Nat) (args : List AV) : XEx .cap args d K F L σ = XPv (exP .cap args) d K F L σ := rfl
theorem xex_b2s (d : Option Nat) (args : List AV) : XEx .b2s args d K F L σ = XPv (exP .b2s args) d K F L σ := rfl
theorem xex_usd (d : Option Nat) (args : List AV) : XEx .usd args d K F L σ = XPv (exP .usd args) d K F L σ := rfl
theorem xex_alt (d : Nat) (t : Nat) (z : List AV) : XEx (.alt t z) [] (some d) K F L σ = (cellsOk z = true ∧ ∀ i, (σ.blk i = none ∧ σ.bt i = none) → K (put d (.gp i 0) F) L ((σ.setBlk i z).setBt i (z.length, t))) := by
  simp only [XEx, EK.pure, Bool.false_eq_true, if_false, List.all_nil, true_and, ExR, putO]
theorem XEx.snil {d : Nat} {ne b : Bool} {v : AV} (hn : v.noLp = true) (hv : nilS v = some b) (h : K (put d (.d (.bool (b != ne))) F) L σ) : XEx (.snil ne) [v] (some d) K F L σ := by
  refine ⟨by simp [hn], ?_⟩
  show (match nilS v with | some b => _ | none => _)
  rw [hv]; exact h
theorem XEx.snil_any {d : Nat} {ne : Bool} {v : AV} (hn : v.noLp = true) (hr : v.rows = some []) (h : ∀ b, K (put d (.d (.bool b)) F) L σ) : XEx (.snil ne) [v] (some d) K F L σ := by
  refine ⟨by simp [hn], ?_⟩
  show (match nilS v with | some b => _ | none => _)
  cases nilS v with
  | some b => exact h _
  | none => exact ⟨hr, h⟩
theorem XEx.apps {d : Option Nat} {e : Nat} {s : AV} {x : List UInt8} {rows : List (List DV)} {σ1 : Heap} (hn : s.noLp = true) (ha : appA σ e 1 s = some (rows, σ1)) (hl : rows.length + x.length ≤ 140737488355328)
    (h : ∀ t, σ.tok t = false → K (putO d (.own t e 1 (rows ++ byteRows x)) F) L (σ1.addTok t)) : XEx (.apps e) [s, .d (.str x)] d K F L σ :=
  ⟨by rw [List.all_cons, hn]; rfl, rows, σ1, ha, hl, h⟩
theorem XEx.appz {d : Option Nat} {e size bytes : Nat} {z : List AV} {k : IntKind} {n : Nat} (h0 : 0 < n) (hb : bytes ≤ 10000) (hn : n ≤ 1000000000)
    (h : ∀ j, σ.blk j = none → K (putO d (.ms j n size e) F) L (σ.setBlk j (List.replicate n z).flatten)) : XEx (.appz e size bytes z) [.nils, .d (.int k n)] d K F L σ := by
  refine ⟨rfl, by omega, ?_, by omega, ?_⟩
  · have h1 : n * bytes ≤ 1000000000 * 10000 := Nat.mul_le_mul hn hb
    have h2 : ((n * bytes : Nat) : Int) ≤ ((1000000000 * 10000 : Nat) : Int) := Int.ofNat_le.2 h1
    rw [Int.natCast_mul] at h2
    exact Int.le_trans h2 (by decide)
  · simpa using h
theorem XEx.ustr {d : Option Nat} {e t : Nat} {s : List UInt8} {n : Int} (hl : n = s.length) (h0 : s ≠ []) (ht : σ.tok t = true) (h : K (putO d (.d (.str s)) F) L (σ.delTok t)) : XEx (.ustr e) [.bp t e s, .d (.int .i64 n)] d K F L σ :=
  ⟨rfl, ⟨rfl, hl⟩, h0, ht, h⟩
theorem XAppM.emp {d : Option Nat} {e size bytes n : Nat} {s x : AV} {cs : List AV} {σ1 : Heap} (h1 : appmA σ e size s = some (n, cs, σ1)) (h2 : x.rows = some []) (h5 : n ≤ 1000000000) (hb : bytes ≤ 10000)
    (h : K (putO d s F) L σ) : XAppM e size bytes s x d K F L σ :=
  ⟨n, cs, σ1, [], h1, h2, by simp, fun _ => h, by simp only [maxLen, List.length_nil]; omega, by
    calc (n + 0) * bytes ≤ 1000000000 * 10000 := Nat.mul_le_mul h5 hb
      _ ≤ 140737488355328 := by decide, fun e => absurd rfl e⟩
theorem XAppM.mk {d : Option Nat} {e size bytes n : Nat} {s x : AV} {cs : List AV} {srows : List (List DV)} {σ1 : Heap} (h1 : appmA σ e size s = some (n, cs, σ1)) (h2 : x.rows = some srows)
    (h3 : ∀ r ∈ srows, r.length = size) (h4 : srows ≠ []) (h5 : n + srows.length ≤ 1000000000) (hb : bytes ≤ 10000)
    (h : ∀ j, σ.blk j = none → K (putO d (.ms j (n + srows.length) size e) F) L (σ1.setBlk j (cs ++ newCells srows))) : XAppM e size bytes s x d K F L σ :=
  ⟨n, cs, σ1, srows, h1, h2, h3, fun e => absurd e h4, by simp only [maxLen]; omega, by
    calc (n + srows.length) * bytes ≤ 1000000000 * 10000 := Nat.mul_le_mul h5 hb
      _ ≤ 140737488355328 := by decide, fun _ => h⟩
theorem XBslM.mk {d : Option Nat} {e s n : Nat} {cs : List AV} (h : ∀ j, σ.blk j = none → K (putO d (.ms j n s e) F) L (σ.setBlk j cs)) : XBslM e s n (some cs) d K F L σ := ⟨cs, rfl, h⟩
theorem bndA_no (n : Nat) : bndA n none none = some (0, n) := by simp [bndA]
theorem XMsl.mk {d : Option Nat} {e s b : Nat} {z : List AV} (n : Nat) (hb : b * n ≤ 281474976710656) (hn : n ≤ 9223372036854775807) (h : ∀ i, σ.blk i = none → K (putO d (.ms i n s e) F) L (σ.setBlk i (List.replicate n z).flatten)) :
    XMsl e s b z (.d (.int .i64 n)) (.d (.int .i64 n)) d K F L σ :=
  ⟨.i64, .i64, n, rfl, rfl, by omega, by rw [← Int.natCast_mul]; omega, by omega, fun i hi => by simpa using h i hi⟩
theorem XCall.mk {d : Option Nat} {f : FuncId} {args : List AV} {Q : AV → Heap → Prop} (hn : args.all AV.noLp = true) (h : ACalls P f args σ Q) (hk : ∀ v σ', Q v σ' → K (putO d v F) L σ') :
    XCall P f args d K F L σ := ⟨hn, Q, h, hk⟩
theorem XPCall.mk {d : Option Nat} {f : FuncId} {args : List AV} {v : AV} (hn : args.all AV.noLp = true) (h : ACalls P f args σ (fun v' σ' => v' = v ∧ σ' = σ)) (hk : K (putO d v F) L σ) (hv : v.noLp = true := by rfl) :
    XPCall P f args d K F L σ := ⟨hn, v, ⟨hv, h⟩, hk⟩
theorem XApp.mk {d : Option Nat} {e size bytes : Nat} {s x : AV} {rows srows : List (List DV)} {σ1 : Heap} (h1 : appA σ e size s = some (rows, σ1)) (h2 : x.rows = some srows)
    (h3 : ∀ r ∈ srows, r.length = size) (h4 : rows.length + srows.length ≤ maxLen) (h5 : (rows.length + srows.length) * bytes ≤ 140737488355328)
    (h : ∀ t, σ.tok t = false → K (putO d (.own t e size (rows ++ srows)) F) L (σ1.addTok t)) : XApp e size bytes s x d K F L σ := ⟨rows, σ1, srows, h1, h2, h3, h4, h5, h⟩
theorem call_intro {d : Option Nat} {f : FuncId} {args : List X} {Q : AV → Heap → Prop} (hn : (xvs F args).all AV.noLp = true) (h : ACalls P f (xvs F args) σ Q) (hk : ∀ v σ', Q v σ' → XOps P K r (putO d v F) L σ') :
    XOps P K (⟨d, .call f args, none⟩ :: r) F L σ := ⟨hn, Q, h, hk⟩
theorem callv_intro {d : Option Nat} {x : X} {args : List X} {f : FuncId} {first caps : List AV} {Q : AV → Heap → Prop} (hx : xv F x = .fn f first caps) (hb : hasBody P f = true)
    (hn : (first ++ xvs F args ++ caps).all AV.noLp = true) (h : ACalls P f (first ++ xvs F args ++ caps) σ Q) (hk : ∀ v σ', Q v σ' → XOps P K r (putO d v F) L σ') :
    XOps P K (⟨d, .callv x args, none⟩ :: r) F L σ := ⟨f, first, caps, hx, hb, hn, Q, h, hk⟩
theorem app_intro {d : Option Nat} {e size bytes : Nat} {s x : X} {rows srows : List (List DV)} {σ1 : Heap} (h1 : appA σ e size (xv F s) = some (rows, σ1)) (h2 : (xv F x).rows = some srows)
    (h3 : ∀ r ∈ srows, r.length = size) (h4 : rows.length + srows.length ≤ maxLen) (h5 : (rows.length + srows.length) * bytes ≤ 140737488355328)
    (h : ∀ t, σ.tok t = false → XOps P K r (putO d (.own t e size (rows ++ srows)) F) L (σ1.addTok t)) : XOps P K (⟨d, .app e size bytes s x, none⟩ :: r) F L σ :=
  ⟨rows, σ1, srows, h1, h2, h3, h4, h5, h⟩
theorem ACalls.args {f : FuncId} {args args' : List AV} {Q : AV → Heap → Prop} (h : ACalls P f args' σ Q) (hw : ∀ g vs, VRs g args vs → VRs g args' vs) : ACalls P f args σ Q :=
  fun base g Pr w0 w vs hr hv => h base g Pr w0 w vs hr (hw g vs hv)
theorem XOps_all : ∀ (ops : List Q) {K K' : Kont} {F : Fm} {L : Lm} {σ : Heap}, (∀ F L σ, K F L σ → K' F L σ) → XOps P K ops F L σ → XOps P K' ops F L σ
  | [], _, _, _, _, _, hk, hx => hk _ _ _ hx
  | q :: rest, K, K', F, L, σ, hk, hx => by
    have hx : XG (gd F q.grd) (XO P q.dst (XOps P K rest) F L σ q.o) (XOps P K rest (putO q.dst (.tup []) F) L σ) := hx
    show XG (gd F q.grd) (XO P q.dst (XOps P K' rest) F L σ q.o) (XOps P K' rest (putO q.dst (.tup []) F) L σ)
    cases hc : gd F q.grd with
    | none => rw [hc] at hx; exact hx.elim
    | some b =>
      rw [hc] at hx
      cases b
      · exact XOps_all rest hk hx
      · exact XO_all (fun F L σ h => XOps_all rest hk h) hx
def Cut (live : List Nat) (F0 : Fm) (L0 : Lm) (σ0 : Heap) : Kont := fun F L σ => keep live F = F0 ∧ keepL live L = L0 ∧ σ = σ0
theorem Run.regCut {cx : Cx} {KK : AV → Heap → Prop} {k : List CI} {ops : List Q} {live : List Nat} (hm : cx.P.follows .mixedOrders = true) (F0 : Fm) (L0 : Lm) (σ0 : Heap)
    (h1 : XOps cx.P (Cut live F0 L0 σ0) ops F L σ) (h2 : Run cx KK k F0 L0 σ0) : Run cx KK (.code (.reg ops live) :: k) F L σ :=
  Run.reg hm (XOps_all ops (fun F L σ h => by obtain ⟨e1, e2, e3⟩ := h; show Run cx KK k (keep live F) (keepL live L) σ; rw [e1, e2, e3]; exact h2) h1)
theorem steps_tail {P : Program} {m m1 m' : Machine} (h : step P m = .next m1) (hs : Steps P m m') (hne : m ≠ m') : Steps P m1 m' := by
  obtain ⟨n, hn⟩ := hs
  cases n with
  | zero => simp only [runN] at hn; cases hn; exact absurd rfl hne
  | succ n => simp only [runN, h] at hn; exact ⟨n, hn⟩
theorem Run.loopA {cx : Cx} {KK : AV → Heap → Prop} {k : List CI} {c : C} (h : Run cx KK (.again c :: k) F L σ) : Run cx KK (.code (.loop c) :: k) F L σ := by
  intro items base g lam Pr a w0 w b cs hi hf hb hk
  obtain ⟨p, ys, rfl, ⟨p1, rfl, h1⟩, hys⟩ := hi.code
  obtain ⟨v, w', fr, hs, hfn, hl, rest⟩ := h (.inLoop p1 :: ys) base g lam Pr a w0 w b cs (.cons ⟨p1, rfl, h1⟩ hys) hf hb hk
  refine ⟨v, w', fr, .head step_loop (steps_tail step_inLoop hs fun e => ?_), hfn, hl, rest⟩
  have h2 : (lone (b.at a (.inLoop p1 :: ys)) cs w).gs = (lone fr cs w').gs := by rw [e]
  simp only [lone, Array.mk.injEq, List.cons.injEq, Goroutine.mk.injEq] at h2
  have h3 : (b.at a (.inLoop p1 :: ys)).mode = fr.mode := by rw [h2.1.1]
  rw [hl.1] at h3
  cases h3
def XCond (v : AV) (A B : Prop) : Prop :=
  match v with
  | .d (.bool b) => (b = true → A) ∧ (b = false → B)
  | _ => False
theorem xcond_b (b : Bool) (A B : Prop) : XCond (.d (.bool b)) A B = ((b = true → A) ∧ (b = false → B)) := rfl
theorem xcond_t (A B : Prop) : XCond (.d (.bool true)) A B = A := by simp [XCond]
theorem xcond_f (A B : Prop) : XCond (.d (.bool false)) A B = B := by simp [XCond]
theorem Run.condM {cx : Cx} {KK : AV → Heap → Prop} {k : List CI} {x : X} {t e : C} (h : XCond (xv F x) (Run cx KK (.code t :: k) F L σ) (Run cx KK (.code e :: k) F L σ)) : Run cx KK (.code (.cond x t e) :: k) F L σ := by
  cases hx : xv F x <;> rw [hx] at h <;> try exact h.elim
  rename_i dv
  cases dv <;> try exact h.elim
  exact Run.cond hx h.1 h.2
mutual
def AV.plain : AV → AV
  | .nils => .d (.sl [])
  | .nilp => .d .nilp
  | .own _ _ _ rows => .d (.sl rows)
  | .clip rows => .d (.sl rows)
  | .agg cs => .agg (AV.plains cs)
  | .tup vs => .tup (AV.plains vs)
  | v => v
def AV.plains : List AV → List AV
  | [] => []
  | v :: l => AV.plain v :: AV.plains l
end
theorem plain_d (x : DV) : AV.plain (AV.d x) = (AV.d x) := by simp only [AV.plain]
theorem plain_nils  : AV.plain AV.nils = .d (.sl []) := by simp only [AV.plain]
theorem plain_own (t e s : Nat) (r : List (List DV)) : AV.plain (AV.own t e s r) = .d (.sl r) := by simp only [AV.plain]
theorem plain_clip (r : List (List DV)) : AV.plain (AV.clip r) = .d (.sl r) := by simp only [AV.plain]
theorem plain_agg (r : List AV) : AV.plain (AV.agg r) = .agg (AV.plains r) := by simp only [AV.plain]
theorem plain_lp (j o : Nat) : AV.plain (AV.lp j o) = (AV.lp j o) := by simp only [AV.plain]
theorem plain_gp (j o : Nat) : AV.plain (AV.gp j o) = (AV.gp j o) := by simp only [AV.plain]
theorem plain_ep (r : List DV) (o : Nat) : AV.plain (AV.ep r o) = (AV.ep r o) := by simp only [AV.plain]
theorem plain_nilp  : AV.plain AV.nilp = .d .nilp := by simp only [AV.plain]
theorem plain_ms (i n s e : Nat) : AV.plain (AV.ms i n s e) = (AV.ms i n s e) := by simp only [AV.plain]
theorem plain_mv (i o n s e : Nat) : AV.plain (AV.mv i o n s e) = (AV.mv i o n s e) := by simp only [AV.plain]
theorem plain_bp (t e : Nat) (s : List UInt8) : AV.plain (AV.bp t e s) = (AV.bp t e s) := by simp only [AV.plain]
theorem plain_nilf : AV.plain AV.nilf = AV.nilf := by simp only [AV.plain]
theorem plain_fn (f : FuncId) (x y : List AV) : AV.plain (AV.fn f x y) = (AV.fn f x y) := by simp only [AV.plain]
theorem plain_tup (x : List AV) : AV.plain (AV.tup x) = .tup (AV.plains x) := by simp only [AV.plain]
theorem plain_undef  : AV.plain AV.undef = AV.undef := by simp only [AV.plain]
theorem plains_get : ∀ (l : List AV) (i : Nat), (AV.plains l)[i]? = (l[i]?).map AV.plain
  | [], i => by simp [AV.plains]
  | v :: l, 0 => by simp [AV.plains]
  | v :: l, i + 1 => by simp [AV.plains, plains_get l i]
theorem plains_len : ∀ l : List AV, (AV.plains l).length = l.length
  | [] => rfl
  | v :: l => by simp [AV.plains, plains_len l]
theorem plain_cell {v : AV} (h : v.isCell = true) : v.plain.isCell = true := by cases v <;> first | rfl | (cases h; done)
theorem VR.plain {g : Gh} {x : AV} {v : Value} (h : VR g x v) : VR g x.plain v := by
  induction h with
  | d h => simpa [AV.plain] using VR.d h
  | nils => exact .d (.nil (Nat.zero_le _) (fun _ => rfl))
  | own h _ _ => exact .d h
  | clip h => exact .d h
  | @agg cs vs hl hc _ ih =>
    refine .agg (by rw [plains_len]; exact hl) (fun c hcm => ?_) (fun i c v hci hvi => ?_)
    · obtain ⟨i, hi, rfl⟩ := List.getElem_of_mem hcm
      have := plains_get cs i
      rw [List.getElem?_eq_getElem hi] at this
      cases hcs : cs[i]? with
      | none => rw [hcs] at this; cases this
      | some c' => rw [hcs] at this; simp only [Option.map_some, Option.some.injEq] at this; rw [this]; exact plain_cell (hc c' (List.mem_of_getElem? hcs))
    · rw [plains_get] at hci
      cases hcs : cs[i]? with
      | none => rw [hcs] at hci; cases hci
      | some c' => rw [hcs] at hci; simp only [Option.map_some, Option.some.injEq] at hci; rw [← hci]; exact ih i c' v hcs hvi
  | gp h => simpa [AV.plain] using VR.gp h
  | ep hi hr => simpa [AV.plain] using VR.ep hi hr
  | nilp => exact .d .nilp
  | nilf => simpa [AV.plain] using VR.nilf
  | ms h hr hn hm => simpa [AV.plain] using VR.ms h hr hn hm
  | mv h hr hn hm ho => simpa [AV.plain] using VR.mv h hr hn hm ho
  | bp h k => simpa [AV.plain] using VR.bp h k
  | fn hl hl' h h' _ _ => simpa [AV.plain] using VR.fn hl hl' h h'
  | @tup cs vs hl _ ih =>
    refine .tup (by rw [plains_len]; exact hl) (fun i c v hci hvi => ?_)
    rw [plains_get] at hci
    cases hcs : cs[i]? with
    | none => rw [hcs] at hci; cases hci
    | some c' => rw [hcs] at hci; simp only [Option.map_some, Option.some.injEq] at hci; rw [← hci]; exact ih i c' v hcs hvi
  | undef => simpa [AV.plain] using VR.undef
theorem VRs.plain {g : Gh} {xs : List AV} {vs : List Value} (h : VRs g xs vs) : VRs g (AV.plains xs) vs := by
  induction h with
  | nil => exact .nil
  | cons h _ ih => exact .cons h.plain ih
theorem ACalls.plain {f : FuncId} {args : List AV} {Q : AV → Heap → Prop} (h : ACalls P f (AV.plains args) σ Q) : ACalls P f args σ Q :=
  fun base g Pr w0 w vs hr hv => h base g Pr w0 w vs hr hv.plain
def XRet (o : Option AV) (K : AV → Heap → Prop) (σ : Heap) : Prop :=
  match o with
  | some v => K v σ
  | none => False
theorem xret_some (v : AV) (K : AV → Heap → Prop) (σ : Heap) : XRet (some v) K σ = K v σ := rfl
theorem Run.retP {cx : Cx} {KK : AV → Heap → Prop} {k : List CI} {σ2 : Heap} (hg : Good cx) (hσ : σ2.le σ) (h : XRet ((retA F L σ cx.rs).map AV.plain) KK σ2) : Run cx KK (.code .ret :: k) F L σ := by
  cases hr : retA F L σ cx.rs with
  | none => rw [hr] at h; exact h.elim
  | some v => rw [hr] at h; exact Run.ret hg hr (fun _ _ h => h.plain) hσ h
theorem Run.retR {cx : Cx} {KK : AV → Heap → Prop} {k : List CI} {σ2 : Heap} (hg : Good cx) (hσ : σ2.le σ) (h : XRet (retA F L σ cx.rs) KK σ2) : Run cx KK (.code .ret :: k) F L σ := by
  cases hr : retA F L σ cx.rs with
  | none => rw [hr] at h; exact h.elim
  | some v => rw [hr] at h; exact Run.ret hg hr (fun _ _ h => h) hσ h
theorem setBlk_get (σ : Heap) (i j : Nat) (cs : List AV) : (σ.setBlk i cs).blk j = if j = i then some cs else σ.blk j := rfl
theorem setBlk_set (σ : Heap) (i : Nat) (cs ds : List AV) : (σ.setBlk i cs).setBlk i ds = σ.setBlk i ds := by
  unfold Heap.setBlk
  congr 1
  funext j
  by_cases h : j = i <;> simp [h]
theorem setBlk_tok (σ : Heap) (i j : Nat) (cs : List AV) : (σ.setBlk i cs).tok j = σ.tok j := rfl
theorem setBlk_same {σ : Heap} {i : Nat} {cs : List AV} (h : σ.blk i = some cs) : σ.setBlk i cs = σ := by
  unfold Heap.setBlk
  cases σ
  congr 1
  funext j
  split
  · rename_i e; subst e; exact h.symm
  · rfl
theorem addTok_blk (σ : Heap) (t i : Nat) : (σ.addTok t).blk i = σ.blk i := rfl
theorem delTok_blk (σ : Heap) (t i : Nat) : (σ.delTok t).blk i = σ.blk i := rfl
theorem Heap.le_trans {a b c : Heap} (h : a.le b) (k : b.le c) : a.le c := ⟨fun i cs x => k.blk i cs (h.blk i cs x), fun t x => k.tok t (h.tok t x), h.gt.trans k.gt, fun i x hx => k.bt i x (h.bt i x hx)⟩
theorem le_setBlk {σ : Heap} {i : Nat} {cs : List AV} (h : σ.blk i = none) : σ.le (σ.setBlk i cs) :=
  ⟨fun j ds hj => by
    have : j ≠ i := fun e => by rw [e, h] at hj; cases hj
    rw [setBlk_get, if_neg this]; exact hj, fun _ h => h, rfl, fun _ _ h => h⟩
structure OwnS (σ : Heap) (e s : Nat) (rows : List (List DV)) (v : AV) (σ' : Heap) : Prop where
  app : ∃ σ1, appA σ' e s v = some (rows, σ1) ∧ σ.le σ1
  le : σ.le σ'
  plain : v.plain = .d (.sl rows)
  len : lenA v = some (.d (.int .i64 rows.length))
  cell : v.isCell = true
  noLp : v.noLp = true
  lpOf : ∀ k, v.lpOf k = false
  dv : v.dv = some (.sl rows)
  cells : v.cells = [v]
theorem OwnS.nil (σ : Heap) (e s : Nat) : OwnS σ e s [] .nils σ :=
  ⟨⟨σ, rfl, Heap.le_refl σ⟩, Heap.le_refl σ, rfl, rfl, rfl, rfl, fun _ => rfl, rfl, rfl⟩
theorem OwnS.own {σ σ1 σ' : Heap} {e s t : Nat} {rows : List (List DV)} (hle : σ.le σ1) (hle' : σ.le σ') (ht : σ'.tok t = false) : OwnS σ e s rows (.own t e s rows) (σ1.addTok t) := by
  have hnt : σ.tok t = false := by
    cases h : σ.tok t with
    | false => rfl
    | true => rw [hle'.tok t h] at ht; cases ht
  refine ⟨⟨(σ1.addTok t).delTok t, by simp [appA, Heap.addTok], ⟨fun i cs h => hle.blk i cs h, fun t' h => ?_, hle.gt, hle.bt⟩⟩, ⟨fun i cs h => hle.blk i cs h, fun t' h => ?_, hle.gt, hle.bt⟩, rfl, rfl, rfl, rfl, fun _ => rfl, rfl, rfl⟩
  · have hne : t' ≠ t := fun e => by rw [e, hnt] at h; cases h
    simp [Heap.delTok, Heap.addTok, hne, hle.tok t' h]
  · have hne : t' ≠ t := fun e => by rw [e, hnt] at h; cases h
    simp [Heap.addTok, hne, hle.tok t' h]
theorem XApp.own {σ0 : Heap} {d : Option Nat} {e size bytes : Nat} {s x : AV} {rows srows : List (List DV)} (ho : OwnS σ0 e size rows s σ) (h2 : x.rows = some srows)
    (h3 : ∀ r ∈ srows, r.length = size) (h4 : rows.length + srows.length ≤ 1000000000) (hb : bytes ≤ 10000)
    (h : ∀ v σ', OwnS σ0 e size (rows ++ srows) v σ' → (∀ i, σ'.blk i = σ.blk i) → K (putO d v F) L σ') : XApp e size bytes s x d K F L σ := by
  obtain ⟨σ1, ha, hl⟩ := ho.app
  refine XApp.mk ha h2 h3 (by simp only [maxLen]; omega) ?_ (fun t ht => h _ _ (OwnS.own hl ho.le ht) (fun i => ?_))
  · calc (rows.length + srows.length) * bytes ≤ 1000000000 * 10000 := Nat.mul_le_mul h4 hb
      _ ≤ 140737488355328 := by decide
  · rw [addTok_blk]
    unfold appA at ha
    split at ha
    · cases ha; rfl
    · split at ha
      · cases ha; rfl
      · cases ha
    · cases ha
variable {cx : Cx} {KK : AV → Heap → Prop} {k : List CI}
theorem Run.facts {p : Prop} (hp : ∀ base g lam Pr a w0 w, FRel base g lam Pr cx.N F L σ a w0 w → p) (h : p → Run cx KK k F L σ) : Run cx KK k F L σ :=
  fun items base g lam Pr a w0 w b cs hi hf hb hk => h (hp base g lam Pr a w0 w hf) items base g lam Pr a w0 w b cs hi hf hb hk
def AV.lenOk : AV → Prop
  | .d (.sl rows) => rows.length ≤ 9223372036854775807
  | .d (.str s) => s.length ≤ 9223372036854775807
  | .d (.int k n) => k.min ≤ n ∧ n ≤ k.max
  | .own _ _ _ rows => rows.length ≤ 9223372036854775807
  | .clip rows => rows.length ≤ 9223372036854775807
  | _ => True
theorem VR.lenOk {g : Gh} {x : AV} {v : Value} (h : VR g x v) : x.lenOk := by
  cases h with
  | d h =>
    cases h with
    | int h => exact h
    | bool => trivial
    | str h => exact h
    | nil => simp [AV.lenOk]
    | sl hc hm _ _ _ => exact Nat.le_trans hc hm
    | ptr => trivial
    | nilp => trivial
  | own h _ _ => obtain ⟨_, _, _, h2⟩ := h.sl_len; exact h2
  | clip h => obtain ⟨_, _, _, h2⟩ := h.sl_len; exact h2
  | _ => trivial
theorem SV.lenOk {g : Gh} {lam : Nat → Option Nat} {x : AV} {v : Value} (h : SV g lam x v) : x.lenOk := by
  cases x <;> first | exact VR.lenOk h | trivial
theorem Run.slot (s : Nat) (h : (F s).lenOk → Run cx KK k F L σ) : Run cx KK k F L σ :=
  Run.facts (fun _ _ _ _ _ _ _ hf => (hf.tm s).lenOk) h
theorem Run.cell (j o : Nat) {cs : List AV} {c : AV} (hL : L j = some cs) (hc : cs[o]? = some c) (h : c.lenOk → Run cx KK k F L σ) : Run cx KK k F L σ :=
  Run.facts (fun _ _ _ _ _ _ _ hf => by
    obtain ⟨_, b, vs, ty, _, _, _, hr⟩ := hf.loc j cs hL
    obtain ⟨v, _, hv⟩ := hr.at o c hc
    exact hv.lenOk) h
end Go.Ab
