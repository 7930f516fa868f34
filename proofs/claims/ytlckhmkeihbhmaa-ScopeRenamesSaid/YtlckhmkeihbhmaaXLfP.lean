/- Programs read out of memory. Rules for walks that split and call by themselves. Data types of package api as plain data. Bytes and keywords. Keywords and numbers of the reference. Signs, numbers and prefixes. Conditions: none. -/
import Derived.Test.YtlckhmkeihbhmaaXCdV
set_option linter.unusedSimpArgs false
namespace Go.Ab
open Go.Proofs
theorem dec_strs {ds : List DV} (h : DT Try.prog 37 ds) : ∃ l : List Str, ds = [.sl (l.map sRow)] := by
  obtain ⟨rows, rfl, _, hr⟩ := h.inv_sl Try.underlying37
  obtain ⟨l, rfl⟩ := rows_map (f := sRow) rows (fun r hm => by
    obtain ⟨s, rfl, _⟩ := (hr r hm).inv_str Try.underlying9
    exact ⟨s, rfl⟩)
  exact ⟨l, rfl⟩
theorem dec_te : ∀ (n : Nat) (ds : List DV), SizeOf.sizeOf ds ≤ n → DT Try.prog 46 ds → ∃ t : TE, ds = t.enc := by
  intro n
  induction n with
  | zero => intro ds h; cases ds <;> simp at h
  | succ n ih =>
    intro ds hn h
    obtain ⟨a, b, rfl, h1, hb⟩ := (h.inv_struct Try.underlying46).inv_cons
    obtain ⟨a2, b2, rfl, h2, hb2⟩ := hb.inv_cons
    obtain ⟨a3, b3, rfl, h3, hb3⟩ := hb2.inv_cons
    cases hb3.inv_nil
    obtain ⟨k, rfl, _⟩ := h1.inv_int Try.underlying3
    obtain ⟨m, rfl, _⟩ := h2.inv_str Try.underlying9
    obtain ⟨rows, rfl, _, hr⟩ := h3.inv_sl Try.underlying42
    obtain ⟨l, rfl⟩ := rows_map (f := TE.enc) rows (fun r hm => ih r (by
      have := List.sizeOf_lt_of_mem hm
      simp only [List.cons_append, List.nil_append, List.append_nil, List.cons.sizeOf_spec, List.nil.sizeOf_spec, DV.int.sizeOf_spec, DV.str.sizeOf_spec, DV.sl.sizeOf_spec] at hn
      omega) (hr r hm))
    exact ⟨.mk k m l, by rw [TE.enc_mk]; rfl⟩
theorem dec_ex : ∀ (n : Nat) (ds : List DV), SizeOf.sizeOf ds ≤ n → DT Try.prog 52 ds → ∃ t : Ex, ds = t.enc := by
  intro n
  induction n with
  | zero => intro ds h; cases ds <;> simp at h
  | succ n ih =>
    intro ds hn h
    obtain ⟨a, b, rfl, h1, hb⟩ := (h.inv_struct Try.underlying52).inv_cons
    obtain ⟨a2, b2, rfl, h2, hb2⟩ := hb.inv_cons
    obtain ⟨a3, b3, rfl, h3, hb3⟩ := hb2.inv_cons
    obtain ⟨a4, b4, rfl, h4, hb4⟩ := hb3.inv_cons
    obtain ⟨a5, b5, rfl, h5, hb5⟩ := hb4.inv_cons
    obtain ⟨a6, b6, rfl, h6, hb6⟩ := hb5.inv_cons
    cases hb6.inv_nil
    obtain ⟨o, rfl, _⟩ := h1.inv_int Try.underlying3
    obtain ⟨m, rfl, _⟩ := h2.inv_str Try.underlying9
    obtain ⟨u, rfl, _⟩ := h3.inv_int Try.underlying2
    obtain ⟨ns, rfl⟩ := dec_strs h4
    obtain ⟨rows, rfl, _, hr⟩ := h5.inv_sl Try.underlying49
    obtain ⟨rows2, rfl, _, hr2⟩ := h6.inv_sl Try.underlying50
    simp only [List.cons_append, List.nil_append, List.append_nil, List.cons.sizeOf_spec, List.nil.sizeOf_spec, DV.int.sizeOf_spec, DV.str.sizeOf_spec, DV.sl.sizeOf_spec] at hn
    obtain ⟨l, rfl⟩ := rows_map (f := Ex.enc) rows (fun r hm => ih r (by
      have := List.sizeOf_lt_of_mem hm
      omega) (hr r hm))
    obtain ⟨l2, rfl⟩ := rows_map (f := Al.enc) rows2 (fun r hm => by
      have hlt := List.sizeOf_lt_of_mem hm
      obtain ⟨c1, d1, rfl, g1, e1⟩ := ((hr2 r hm).inv_struct Try.underlying82).inv_cons
      obtain ⟨c2, d2, rfl, g2, e2⟩ := e1.inv_cons
      obtain ⟨c3, d3, rfl, g3, e3⟩ := e2.inv_cons
      cases e3.inv_nil
      obtain ⟨c, rfl, _⟩ := g1.inv_str Try.underlying9
      obtain ⟨vs, rfl⟩ := dec_strs g2
      simp only [List.cons_append, List.nil_append, List.append_nil, List.cons.sizeOf_spec, DV.str.sizeOf_spec, DV.sl.sizeOf_spec] at hlt
      obtain ⟨e, rfl⟩ := ih c3 (by omega) g3
      exact ⟨.mk c vs e, by simp [Al.enc, ssD]⟩)
    exact ⟨.mk o m u ns l l2, by rw [Ex.enc_mk]; rfl⟩
theorem dec_ce (ds : List DV) (h : DT Try.prog 44 ds) : ∃ c : CE, ds = c.enc := by
  obtain ⟨a, b, rfl, h1, hb⟩ := (h.inv_struct Try.underlying44).inv_cons
  obtain ⟨a2, b2, rfl, h2, hb2⟩ := hb.inv_cons
  cases hb2.inv_nil
  obtain ⟨s, rfl, _⟩ := h1.inv_str Try.underlying9
  obtain ⟨rows, rfl, _, hr⟩ := h2.inv_sl Try.underlying42
  obtain ⟨l, rfl⟩ := rows_map (f := TE.enc) rows (fun r hm => dec_te _ r (Nat.le_refl _) (hr r hm))
  exact ⟨⟨s, l⟩, rfl⟩
theorem dec_de (ds : List DV) (h : DT Try.prog 40 ds) : ∃ c : DE, ds = c.enc := by
  obtain ⟨a, b, rfl, h1, hb⟩ := (h.inv_struct Try.underlying40).inv_cons
  obtain ⟨a2, b2, rfl, h2, hb2⟩ := hb.inv_cons
  obtain ⟨a3, b3, rfl, h3, hb3⟩ := hb2.inv_cons
  cases hb3.inv_nil
  obtain ⟨s, rfl, _⟩ := h1.inv_str Try.underlying9
  obtain ⟨vs, rfl⟩ := dec_strs h2
  obtain ⟨rows, rfl, _, hr⟩ := h3.inv_sl Try.underlying38
  obtain ⟨l, rfl⟩ := rows_map (f := CE.enc) rows (fun r hm => dec_ce r (hr r hm))
  exact ⟨⟨s, vs, l⟩, rfl⟩
theorem dec_fe (ds : List DV) (h : DT Try.prog 54 ds) : ∃ c : FE, ds = c.enc := by
  obtain ⟨a, b, rfl, h1, hb⟩ := (h.inv_struct Try.underlying54).inv_cons
  obtain ⟨a2, b2, rfl, h2, hb2⟩ := hb.inv_cons
  obtain ⟨a3, b3, rfl, h3, hb3⟩ := hb2.inv_cons
  cases hb3.inv_nil
  obtain ⟨s, rfl, _⟩ := h1.inv_str Try.underlying9
  obtain ⟨vs, rfl⟩ := dec_strs h2
  obtain ⟨e, rfl⟩ := dec_ex _ a3 (Nat.le_refl _) h3
  exact ⟨⟨s, vs, e⟩, by simp [FE.enc]⟩
theorem dec_pg (ds : List DV) (h : DT Try.prog 25 ds) : ∃ p : Pg, ds = p.enc := by
  obtain ⟨a, b, rfl, h1, hb⟩ := (h.inv_struct Try.underlying25).inv_cons
  obtain ⟨a2, b2, rfl, h2, hb2⟩ := hb.inv_cons
  cases hb2.inv_nil
  obtain ⟨rows, rfl, _, hr⟩ := h1.inv_sl Try.underlying22
  obtain ⟨l, rfl⟩ := rows_map (f := DE.enc) rows (fun r hm => dec_de r (hr r hm))
  obtain ⟨rows2, rfl, _, hr2⟩ := h2.inv_sl Try.underlying23
  obtain ⟨l2, rfl⟩ := rows_map (f := FE.enc) rows2 (fun r hm => dec_fe r (hr2 r hm))
  exact ⟨⟨l, l2⟩, rfl⟩
theorem args_pg {av : List AV} (h : DArgs Try.prog [25] av) : ∃ p : Pg, av = [pgA p] := by
  cases h with
  | cons h1 h =>
    cases h
    obtain ⟨p, rfl⟩ := dec_pg _ h1
    exact ⟨p, by rw [argA_struct Try.underlying25]; rfl⟩
theorem args_pg2 {av : List AV} (h : DArgs Try.prog [25, 25] av) : ∃ p q : Pg, av = [pgA p, pgA q] := by
  cases h with
  | cons h1 h =>
    cases h with
    | cons h2 h =>
      cases h
      obtain ⟨p, rfl⟩ := dec_pg _ h1
      obtain ⟨q, rfl⟩ := dec_pg _ h2
      exact ⟨p, q, by rw [argA_struct Try.underlying25, argA_struct Try.underlying25]; rfl⟩
end Go.Ab

namespace Go.Ab
open Go.RowKit
variable {P : Program} {K : Kont} {F : Fm} {L : Lm} {σ : Heap}
theorem put_same {s : Nat} {v : AV} (h : F s = v) : put s v F = F := by
  funext t
  simp only [put]
  split
  · rename_i e; rw [← h]; first | (subst e; rfl) | (rw [e])
  · rfl
theorem xo_gs {d : Option Nat} {o : O} {s : Nat} {want b : Bool} {r : List Q} (hF : F s = .d (.bool b))
    (h1 : b = true → XOps P K (⟨d, o, some (s, want)⟩ :: r) (put s (.d (.bool true)) F) L σ) (h2 : b = false → XOps P K (⟨d, o, some (s, want)⟩ :: r) (put s (.d (.bool false)) F) L σ) :
    XOps P K (⟨d, o, some (s, want)⟩ :: r) F L σ := by
  cases b
  · have := h2 rfl; rw [put_same hF] at this; exact this
  · have := h1 rfl; rw [put_same hF] at this; exact this
theorem XCall.det {d : Option Nat} {f : FuncId} {args : List AV} {v : AV} (h : ACalls P f args σ (fun v' σ' => v' = v ∧ σ' = σ)) (hk : K (putO d v F) L σ) (hn : args.all AV.noLp = true := by rfl) : XCall P f args d K F L σ :=
  XCall.mk hn h (fun v' σ' ⟨e1, e2⟩ => by subst e1; subst e2; exact hk)
theorem wrap_nat {n : Nat} (h : n ≤ 9000000000000000000) : IntKind.i64.wrap (n : Int) = n := wrap_pos (by omega) (by omega)
theorem wrap_add {a b : Nat} (h : a + b ≤ 9000000000000000000) : IntKind.i64.wrap ((a : Int) + (b : Int)) = ((a + b : Nat) : Int) := by
  rw [wrap_pos (by omega) (by omega)]; omega
theorem wrap_succ {a : Nat} (h : a + 1 ≤ 9000000000000000000) : IntKind.i64.wrap ((a : Int) + 1) = ((a + 1 : Nat) : Int) := by
  rw [wrap_pos (by omega) (by omega)]; omega
theorem lt_t {i n : Nat} (h : i < n) : decide ((i : Int) < (n : Int)) = true := by simp [h]
theorem lt_f {i n : Nat} (h : ¬ i < n) : decide ((i : Int) < (n : Int)) = false := by simp; omega
theorem sidx_at {s : List UInt8} {i : Nat} {b : UInt8} (h : s[i]? = some b) (k : IntKind) : sidxA (.d (.str s)) (.d (.int k (i : Int))) = some (.d (.int .u8 b.toNat)) := by
  simp [sidxA, h]
theorem ssl_hi {s : List UInt8} {n : Nat} (h : n ≤ s.length) : sslA (.d (.str s)) none (some (.d (.int .i64 (n : Int)))) = some (.d (.str (s.take n))) := by
  simp [sslA, bndA, natA, h]
theorem ssl_lo {s : List UInt8} {n : Nat} (h : n ≤ s.length) : sslA (.d (.str s)) (some (.d (.int .i64 (n : Int)))) none = some (.d (.str (s.drop n))) := by
  simp [sslA, bndA, natA, h]
theorem ssl_lh {s : List UInt8} {n m : Nat} (h : n ≤ m) (h2 : m ≤ s.length) : sslA (.d (.str s)) (some (.d (.int .i64 (n : Int)))) (some (.d (.int .i64 (m : Int)))) = some (.d (.str ((s.take m).drop n))) := by
  simp [sslA, bndA, natA, h, h2]
theorem ssl_2 {b c : UInt8} {s : List UInt8} : sslA (.d (.str (b :: c :: s))) none (some (.d (.int .i64 2))) = some (.d (.str [b, c])) := by
  rw [show (2 : Int) = ((2 : Nat) : Int) from rfl, ssl_hi (by simp)]; rfl
theorem ssl_1 {b : UInt8} {s : List UInt8} : sslA (.d (.str (b :: s))) none (some (.d (.int .i64 1))) = some (.d (.str [b])) := by
  rw [show (1 : Int) = ((1 : Nat) : Int) from rfl, ssl_hi (by simp)]; rfl
theorem u8eq (b x : UInt8) : ((b.toNat : Int) == (x.toNat : Int)) = (b == x) := by
  rw [Bool.eq_iff_iff]; simp only [beq_iff_eq, Int.natCast_inj, UInt8.toNat_inj]
theorem Run.prune {cx : Cx} {KK : AV → Heap → Prop} {k : List CI} (ks : List Nat) (h : Run cx KK k (keep ks F) (keepL ks L) σ) : Run cx KK k F L σ :=
  fun items base g lam Pr a w0 w b cs hi hf hb hk => h items base g lam Pr a w0 w b cs hi (hf.kept ks) hb hk
def ctl (bl : Bool) : List CI → Option (List CI)
  | .code .skip :: k => some k
  | .code (.seq x y) :: k => some (.code x :: .code y :: k)
  | .code (.block i c) :: k => if bl then some (.code c :: .blk i :: k) else none
  | .code (.scope c) :: k => some (.code c :: .scp :: k)
  | .blk _ :: k => some k
  | .scp :: k => some k
  | .code (.exit i) :: k => exitC i k
  | _ => none
theorem Run.ctB {cx : Cx} {KK : AV → Heap → Prop} (bl : Bool) {k k' : List CI} (e : ctl bl k = some k') (h : Run cx KK k' F L σ) : Run cx KK k F L σ := by
  unfold ctl at e
  split at e
  · cases e; exact Run.skip h
  · cases e; exact Run.seq h
  · split at e
    · cases e; exact Run.block h
    · cases e
  · cases e; exact Run.scope h
  · cases e; exact Run.blk h
  · cases e; exact Run.scp h
  · exact Run.exit e h
  · cases e
theorem Run.ct {cx : Cx} {KK : AV → Heap → Prop} {k k' : List CI} (e : ctl true k = some k') (h : Run cx KK k' F L σ) : Run cx KK k F L σ := Run.ctB true e h
theorem Run.cb {cx : Cx} {KK : AV → Heap → Prop} {k k' : List CI} (e : ctl false k = some k') (h : Run cx KK k' F L σ) : Run cx KK k F L σ := Run.ctB false e h
attribute [go_sem] convA tysA tyA Ty.enc Ty.encs eq_self Bool.not_eq_true' Bool.not_eq_false'
end Go.Ab

namespace Go.Ab
structure Con where
  name : List UInt8
  args : List Ty
structure Dat where
  name : List UInt8
  vars : Int
  cons : List Con
def Con.enc (c : Con) : List DV := [.str c.name, .sl (Ty.encs c.args)]
def Dat.enc (d : Dat) : List DV := [.str d.name, .int .i64 d.vars, .sl (d.cons.map Con.enc)]
def dsA (l : List Dat) : AV := .d (.sl (l.map Dat.enc))
theorem cons_at {l : List Con} {i : Nat} {x : Con} (h : l[i]? = some x) : (l.map Con.enc)[i]? = some [.str x.name, .sl (Ty.encs x.args)] := by
  rw [List.getElem?_map, h]; rfl
theorem dats_at {l : List Dat} {i : Nat} {x : Dat} (h : l[i]? = some x) : (l.map Dat.enc)[i]? = some [.str x.name, .int .i64 x.vars, .sl (x.cons.map Con.enc)] := by
  rw [List.getElem?_map, h]; rfl
theorem ty_pos : ∀ t : Ty, 1 ≤ t.size
  | .mk _ _ _ => by simp [Ty.size]
theorem ty_len : ∀ l : List Ty, l.length ≤ Ty.sizes l
  | [] => by simp [Ty.sizes]
  | t :: l => by have := ty_len l; have := ty_pos t; simp only [List.length_cons, Ty.sizes]; omega
theorem sizes_take (l : List Ty) (i : Nat) : Ty.sizes (l.take i) ≤ Ty.sizes l := by
  have := sizes_append (l.take i) (l.drop i)
  rw [List.take_append_drop] at this; omega
theorem wrap_sub1' {a : Nat} (h : a ≤ 9000000000000000000) : IntKind.i64.wrap (((a + 1 : Nat) : Int) - 1) = (a : Int) := by
  rw [wrap_pos (by omega) (by omega)]; omega
def leftOf (n s : Nat) : Int := if s ≤ n then ((n - s : Nat) : Int) else -1
theorem Run.heapEq' {cx : Cx} {KK : AV → Heap → Prop} {k : List CI} {F : Fm} {L : Lm} {σ σ' : Heap} (e : σ' = σ) (h : Run cx KK k F L σ') : Run cx KK k F L σ := e ▸ h
theorem Run.meetAt {cx : Cx} {KK : AV → Heap → Prop} {k : List CI} {c : C} {F : Fm} {L : Lm} {σ : Heap} {α : Type} (ks : List Nat) (Fs : α → Fm) (Ls : Lm) (σs : Heap) (I : α → Prop) (h2 : ∀ a, I a → Run cx KK k (Fs a) Ls σs)
    (h1 : (∀ (F' : Fm) (L' : Lm) (a : α), keep ks F' = Fs a → keepL ks L' = Ls → I a → Run cx KK k F' L' σs) → Run cx KK (.code c :: k) F L σ) : Run cx KK (.code c :: k) F L σ :=
  h1 fun F' L' a hF hL hI => Run.prune ks (by rw [hF, hL]; exact h2 a hI)
theorem alt_le {σ : Heap} {i : Nat} {z : List AV} {x : Nat × TypeId} (h : σ.blk i = none ∧ σ.bt i = none) : σ.le ((σ.setBlk i z).setBt i x) ∧ ((σ.setBlk i z).setBt i x).blk i = some z :=
  ⟨⟨fun j cs hj => by
      have hne : j ≠ i := fun e => by rw [e, h.1] at hj; cases hj
      simp [Heap.setBt, Heap.setBlk, hne, hj], fun _ h => h, rfl, fun j y hj => by
      have hne : j ≠ i := fun e => by rw [e, h.2] at hj; cases hj
      simp [Heap.setBt, Heap.setBlk, hne, hj]⟩, by simp [Heap.setBt, Heap.setBlk]⟩
theorem le_set {σ σ1 : Heap} {i : Nat} {cs : List AV} (h : σ.le σ1) (hn : σ.blk i = none) : σ.le (σ1.setBlk i cs) :=
  ⟨fun j ds hj => by
    have hne : j ≠ i := fun e => by rw [e, hn] at hj; cases hj
    rw [setBlk_get, if_neg hne]; exact h.blk j ds hj, h.tok, h.gt, h.bt⟩
theorem strA_eql (a b : List UInt8) : strA .eql a b = some (.d (.bool (a == b))) := rfl
theorem strA_neq (a b : List UInt8) : strA .neq a b = some (.d (.bool (!(a == b)))) := rfl
theorem gtN (n k : Nat) : decide ((k : Int) < (n : Int)) = !decide (n ≤ k) := by
  rw [Bool.eq_iff_iff]; simp
theorem leN (n k : Nat) : decide ((n : Int) ≤ (k : Int)) = decide (n ≤ k) := decide_eq_decide.2 (by omega)
theorem ltN (n k : Nat) : decide ((n : Int) < (k : Int)) = decide (n < k) := decide_eq_decide.2 (by omega)
theorem beqN (n k : Nat) : ((n : Int) == (k : Int)) = (n == k) := by
  rw [Bool.eq_iff_iff]; simp only [beq_iff_eq]; omega
theorem bneN (a b : Nat) : ((a : Int) != (b : Int)) = (a != b) := by
  rw [Bool.eq_iff_iff]; simp; omega
theorem beqF {a b : Int} (h : a ≠ b) : (a == b) = false := by simpa using h
theorem beqT {a b : Int} (h : a = b) : (a == b) = true := by simpa using h
theorem leq_t {i n : Nat} (h : i ≤ n) : decide ((i : Int) ≤ (n : Int)) = true := by simp [h]
theorem leq_f {i n : Nat} (h : ¬ i ≤ n) : decide ((i : Int) ≤ (n : Int)) = false := by simp; omega
end Go.Ab

namespace Go.Ab
open Go.Proofs
def lowB (n : Int) : Bool := decide (97 ≤ n) && decide (n ≤ 122)
def uppB (n : Int) : Bool := decide (65 ≤ n) && decide (n ≤ 90)
def digB (n : Int) : Bool := decide (48 ≤ n) && decide (n ≤ 57)
def witB (n : Int) : Bool := lowB n || uppB n || digB n || (n == 95)
def blaB (n : Int) : Bool := (n == 9) || (n == 10) || (n == 13) || (n == 32)
theorem token_lower_ok (n : Int) (σ : Heap) : ACalls Try.prog 94 [.d (.int .u8 n)] σ (fun v σ' => v = .d (.bool (lowB n)) ∧ σ' = σ) := by
  refine i_token_lower (by simp) ?_
  rw [argF_1]
  (repeat' (first|refine Run.ct rfl ?_|((first|refine Run.reg mixed ?_|refine Run.condM ?_|refine Run.retP g_token_lower (Heap.le_refl _) ?_|(refine xo_gs rfl (fun h => ?_) (fun h => ?_) <;> try (cases h; done))) <;> try simp -implicitDefEqProofs only [go_sem, Nat.reduceEqDiff, Nat.reduceBEq, Nat.reduceAdd, Nat.reduceLeDiff, reduceIte, reduceCtorEq])|(refine ⟨fun h => ?_, fun h => ?_⟩ <;> first|(cases h; done)|try simp only [h])|fail))
  all_goals (simp_all [lowB]; try omega)
theorem token_upper_ok (n : Int) (σ : Heap) : ACalls Try.prog 95 [.d (.int .u8 n)] σ (fun v σ' => v = .d (.bool (uppB n)) ∧ σ' = σ) := by
  refine i_token_upper (by simp) ?_
  rw [argF_1]
  (repeat' (first|refine Run.ct rfl ?_|((first|refine Run.reg mixed ?_|refine Run.condM ?_|refine Run.retP g_token_upper (Heap.le_refl _) ?_|(refine xo_gs rfl (fun h => ?_) (fun h => ?_) <;> try (cases h; done))) <;> try simp -implicitDefEqProofs only [go_sem, Nat.reduceEqDiff, Nat.reduceBEq, Nat.reduceAdd, Nat.reduceLeDiff, reduceIte, reduceCtorEq])|(refine ⟨fun h => ?_, fun h => ?_⟩ <;> first|(cases h; done)|try simp only [h])|fail))
  all_goals (simp_all [uppB]; try omega)
theorem token_digit_ok (n : Int) (σ : Heap) : ACalls Try.prog 99 [.d (.int .u8 n)] σ (fun v σ' => v = .d (.bool (digB n)) ∧ σ' = σ) := by
  refine i_token_digit (by simp) ?_
  rw [argF_1]
  (repeat' (first|refine Run.ct rfl ?_|((first|refine Run.reg mixed ?_|refine Run.condM ?_|refine Run.retP g_token_digit (Heap.le_refl _) ?_|(refine xo_gs rfl (fun h => ?_) (fun h => ?_) <;> try (cases h; done))) <;> try simp -implicitDefEqProofs only [go_sem, Nat.reduceEqDiff, Nat.reduceBEq, Nat.reduceAdd, Nat.reduceLeDiff, reduceIte, reduceCtorEq])|(refine ⟨fun h => ?_, fun h => ?_⟩ <;> first|(cases h; done)|try simp only [h])|fail))
  all_goals (simp_all [digB]; try omega)
theorem r3_lower_ok (n : Int) (σ : Heap) : ACalls Try.prog 44 [.d (.int .u8 n)] σ (fun v σ' => v = .d (.bool (lowB n)) ∧ σ' = σ) := by
  refine i_r3_lower (by simp) ?_
  rw [argF_1]
  (repeat' (first|refine Run.ct rfl ?_|((first|refine Run.reg mixed ?_|refine Run.condM ?_|refine Run.retP g_r3_lower (Heap.le_refl _) ?_|(refine xo_gs rfl (fun h => ?_) (fun h => ?_) <;> try (cases h; done))) <;> try simp -implicitDefEqProofs only [go_sem, Nat.reduceEqDiff, Nat.reduceBEq, Nat.reduceAdd, Nat.reduceLeDiff, reduceIte, reduceCtorEq])|(refine ⟨fun h => ?_, fun h => ?_⟩ <;> first|(cases h; done)|try simp only [h])|fail))
  all_goals (simp_all [lowB]; try omega)
theorem r3_upper_ok (n : Int) (σ : Heap) : ACalls Try.prog 45 [.d (.int .u8 n)] σ (fun v σ' => v = .d (.bool (uppB n)) ∧ σ' = σ) := by
  refine i_r3_upper (by simp) ?_
  rw [argF_1]
  (repeat' (first|refine Run.ct rfl ?_|((first|refine Run.reg mixed ?_|refine Run.condM ?_|refine Run.retP g_r3_upper (Heap.le_refl _) ?_|(refine xo_gs rfl (fun h => ?_) (fun h => ?_) <;> try (cases h; done))) <;> try simp -implicitDefEqProofs only [go_sem, Nat.reduceEqDiff, Nat.reduceBEq, Nat.reduceAdd, Nat.reduceLeDiff, reduceIte, reduceCtorEq])|(refine ⟨fun h => ?_, fun h => ?_⟩ <;> first|(cases h; done)|try simp only [h])|fail))
  all_goals (simp_all [uppB]; try omega)
theorem r3_digit_ok (n : Int) (σ : Heap) : ACalls Try.prog 46 [.d (.int .u8 n)] σ (fun v σ' => v = .d (.bool (digB n)) ∧ σ' = σ) := by
  refine i_r3_digit (by simp) ?_
  rw [argF_1]
  (repeat' (first|refine Run.ct rfl ?_|((first|refine Run.reg mixed ?_|refine Run.condM ?_|refine Run.retP g_r3_digit (Heap.le_refl _) ?_|(refine xo_gs rfl (fun h => ?_) (fun h => ?_) <;> try (cases h; done))) <;> try simp -implicitDefEqProofs only [go_sem, Nat.reduceEqDiff, Nat.reduceBEq, Nat.reduceAdd, Nat.reduceLeDiff, reduceIte, reduceCtorEq])|(refine ⟨fun h => ?_, fun h => ?_⟩ <;> first|(cases h; done)|try simp only [h])|fail))
  all_goals (simp_all [digB]; try omega)
theorem token_blank_ok (n : Int) (σ : Heap) : ACalls Try.prog 90 [.d (.int .u8 n)] σ (fun v σ' => v = .d (.bool (blaB n)) ∧ σ' = σ) := by
  refine i_token_blank (by simp) ?_
  rw [argF_1]
  (repeat' (first|refine Run.ct rfl ?_|((first|refine Run.reg mixed ?_|refine Run.condM ?_|refine Run.retP g_token_blank (Heap.le_refl _) ?_|(refine xo_gs rfl (fun h => ?_) (fun h => ?_) <;> try (cases h; done))) <;> try simp -implicitDefEqProofs only [go_sem, Nat.reduceEqDiff, Nat.reduceBEq, Nat.reduceAdd, Nat.reduceLeDiff, reduceIte, reduceCtorEq])|(refine ⟨fun h => ?_, fun h => ?_⟩ <;> first|(cases h; done)|try simp only [h])|fail))
  all_goals simp_all [blaB]
theorem token_within_ok (n : Int) (σ : Heap) : ACalls Try.prog 97 [.d (.int .u8 n)] σ (fun v σ' => v = .d (.bool (witB n)) ∧ σ' = σ) := by
  refine i_token_within (by simp) ?_
  rw [argF_1]
  (repeat' (first|refine Run.ct rfl ?_|((first|refine Run.reg mixed ?_|refine Run.condM ?_|refine Run.retP g_token_within (Heap.le_refl _) ?_|refine XCall.det (token_lower_ok _ _) ?_|refine XCall.det (token_upper_ok _ _) ?_|refine XCall.det (token_digit_ok _ _) ?_|(refine xo_gs rfl (fun h => ?_) (fun h => ?_) <;> try (cases h; done))) <;> try simp -implicitDefEqProofs only [go_sem, Nat.reduceEqDiff, Nat.reduceBEq, Nat.reduceAdd, Nat.reduceLeDiff, reduceIte, reduceCtorEq])|(refine ⟨fun h => ?_, fun h => ?_⟩ <;> first|(cases h; done)|try simp only [h])|fail))
  all_goals simp_all [witB]
def keyWords : List Str := [[97, 114, 114, 97, 121], [98, 111, 111, 108], [99, 97, 116, 99, 104], [100, 97, 116, 97], [101, 108, 115, 101], [101, 110, 100], [102, 97, 108, 115, 101], [102, 110], [102, 117, 110], [103, 101, 116], [105, 102], [105, 110], [105, 110, 116], [108, 101, 110], [108, 101, 116], [109, 97, 116, 99, 104], [110, 101, 119], [114, 97, 105, 115, 101], [114, 101, 97, 100], [114, 101, 102], [115, 101, 116], [116, 104, 101, 110], [116, 105, 99, 107], [116, 114, 117, 101], [116, 114, 121], [117, 110, 105, 116], [119, 105, 116, 104], [119, 114, 105, 116, 101]]
def keyB (s : Str) : Bool := keyWords.any (s == ·)
set_option maxHeartbeats 4000000 in
theorem token_Keyword_ok (s : Str) (σ : Heap) : ACalls Try.prog 98 [.d (.str s)] σ (fun v σ' => v = .d (.bool (keyB s)) ∧ σ' = σ) := by
  refine i_token_Keyword (by simp) ?_
  rw [argF_1]
  (repeat' (first|refine Run.ct rfl ?_|((first|refine Run.reg mixed ?_|refine Run.condM ?_|refine Run.retP g_token_Keyword (Heap.le_refl _) ?_|(refine xo_gs rfl (fun h => ?_) (fun h => ?_) <;> try (cases h; done))) <;> try simp -implicitDefEqProofs only [go_sem, Nat.reduceEqDiff, Nat.reduceBEq, Nat.reduceAdd, Nat.reduceLeDiff, reduceIte, reduceCtorEq])|(refine ⟨fun h => ?_, fun h => ?_⟩ <;> first|(cases h; done)|try simp only [h])|fail))
  all_goals simp only [keyB, keyWords, List.any_cons, List.any_nil, Bool.or_false, Bool.false_or, Bool.true_or, Bool.or_true, and_self, *]
end Go.Ab

namespace Go.Ab
open Go.Proofs
theorem r3_Keyword_ok (s : Str) (σ : Heap) : ACalls Try.prog 47 [.d (.str s)] σ (fun v σ' => v = .d (.bool (keyB s)) ∧ σ' = σ) := by
  refine i_r3_Keyword (by simp) ?_
  rw [argF_1]
  (repeat (first
      | refine Run.seq ?_
      | refine Run.skip ?_
      | refine Run.block ?_
      | refine Run.blk ?_
      | refine Run.scope ?_
      | refine Run.scp ?_
      | (refine Run.exit rfl ?_)
      | (refine Run.reg mixed ?_; simp -implicitDefEqProofs only [go_sem, Nat.reduceEqDiff, Nat.reduceBEq, Nat.reduceAdd, Nat.reduceLeDiff, reduceIte, reduceCtorEq])
      | (refine Run.condM ?_; simp -implicitDefEqProofs only [go_sem, Nat.reduceEqDiff, Nat.reduceBEq, Nat.reduceAdd, Nat.reduceLeDiff, reduceIte, reduceCtorEq])))
  refine Run.loopA ?_
  refine Run.loopI ((fun (a0 : AV) => fun (i : Nat) => put 0 a0 (put 3 (.d (.sl (keyWords.map sRow))) (put 4 (.d (.int .i64 i)) U))) _) (fun _ => E) (fun _ => σ) (fun i => i ≤ keyWords.length ∧ keyB s = (keyWords.drop i).any (s == ·)) (fun i => keyWords.length - i) ?_ 0 ⟨by omega, rfl⟩
  rintro i ⟨hi, hs⟩ ih
  by_cases hlt : i < keyWords.length
  · obtain ⟨x, hx⟩ := ex_at hlt
    have he := row_at (enc := sRow) hx
    rw [drop_at hx, List.any_cons] at hs
    (repeat' (first|refine Run.ct rfl ?_|((first|refine Run.reg mixed ?_|refine Run.condM ?_|refine Run.retP g_r3_Keyword (Heap.le_refl _) ?_|(refine xo_gs rfl (fun h => ?_) (fun h => ?_) <;> try (cases h; done))) <;> try simp -implicitDefEqProofs only [List.length_map, lt_t hlt, he, sRow, wrap_succ (show i + 1 ≤ 9000000000000000000 by have : keyWords.length = 28 := rfl; omega), go_sem, Nat.reduceEqDiff, Nat.reduceBEq, Nat.reduceAdd, Nat.reduceLeDiff, reduceIte, reduceCtorEq])|(refine ⟨fun h => ?_, fun h => ?_⟩ <;> first|(cases h; done)|try simp only [h])|fail))
    · rw [hs]; simp_all
    · refine ih (i + 1) ⟨hlt, ?_⟩ (by omega)
      rw [hs, show (s == x) = (x == s) from BEq.comm, h, Bool.false_or]
  · have hge : i = keyWords.length := by omega
    (repeat' (first|refine Run.ct rfl ?_|((first|refine Run.reg mixed ?_|refine Run.condM ?_|refine Run.retP g_r3_Keyword (Heap.le_refl _) ?_|(refine xo_gs rfl (fun h => ?_) (fun h => ?_) <;> try (cases h; done))) <;> try simp -implicitDefEqProofs only [List.length_map, lt_f hlt, go_sem, Nat.reduceEqDiff, Nat.reduceBEq, Nat.reduceAdd, Nat.reduceLeDiff, reduceIte, reduceCtorEq])|(refine ⟨fun h => ?_, fun h => ?_⟩ <;> first|(cases h; done)|try simp only [h])|fail))
    rw [hs, hge]; rfl
def valGo : Str → Int → Option Int
  | [], v => some v
  | b :: r, v => if v * 10 + IntKind.u8.wrap ((b.toNat : Int) - 48) > 1000000 then none else valGo r (v * 10 + IntKind.u8.wrap ((b.toNat : Int) - 48))
theorem u8_nn (a : Int) : 0 ≤ IntKind.u8.wrap a ∧ IntKind.u8.wrap a ≤ 255 := by
  have h1 : IntKind.u8.wrap a = a % 256 := by rfl
  rw [h1]; omega
theorem r3_Value_ok (s : Str) (σ : Heap) (hl : s.length ≤ 1000000000) : ACalls Try.prog 48 [.d (.str s)] σ (fun v σ' => v = (match valGo s 0 with | some n => .tup [.d (.int .i64 n), .d (.bool true)] | none => .tup [.d (.int .i64 0), .d (.bool false)]) ∧ σ' = σ) := by
  refine i_r3_Value (by simp) ?_
  rw [argF_1]
  (repeat (first
      | refine Run.seq ?_
      | refine Run.skip ?_
      | refine Run.block ?_
      | refine Run.blk ?_
      | refine Run.scope ?_
      | refine Run.scp ?_
      | (refine Run.exit rfl ?_)
      | (refine Run.reg mixed ?_; simp -implicitDefEqProofs only [go_sem, Nat.reduceEqDiff, Nat.reduceBEq, Nat.reduceAdd, Nat.reduceLeDiff, reduceIte, reduceCtorEq])
      | (refine Run.condM ?_; simp -implicitDefEqProofs only [go_sem, Nat.reduceEqDiff, Nat.reduceBEq, Nat.reduceAdd, Nat.reduceLeDiff, reduceIte, reduceCtorEq])))
  refine Run.loopA ?_
  refine Run.loopI ((fun (a0 : AV) => fun (y : Nat × Int) => put 0 a0 (put 4 (.d (.int .i64 y.2)) (put 5 (.d (.int .i64 y.1)) U))) _) (fun _ => E) (fun _ => σ) (fun y => y.1 ≤ s.length ∧ 0 ≤ y.2 ∧ y.2 ≤ 1000000 ∧ valGo s 0 = valGo (s.drop y.1) y.2) (fun y => s.length - y.1) ?_ (0, 0) ⟨by simp, by simp, by simp, rfl⟩
  rintro ⟨i, v⟩ ⟨hi, h0, h1, hs⟩ ih
  simp only at hi h0 h1 hs
  by_cases hlt : i < s.length
  · obtain ⟨x, hx⟩ := ex_at hlt
    rw [drop_at hx, valGo] at hs
    have hu := u8_nn ((x.toNat : Int) - 48)
    have e1 : IntKind.i64.wrap (v * 10) = v * 10 := wrap_pos (by omega) (by omega)
    have e2 : IntKind.i64.wrap (IntKind.u8.wrap ((x.toNat : Int) - 48)) = IntKind.u8.wrap ((x.toNat : Int) - 48) := wrap_pos (by omega) (by omega)
    have e3 : IntKind.i64.wrap (v * 10 + IntKind.u8.wrap ((x.toNat : Int) - 48)) = v * 10 + IntKind.u8.wrap ((x.toNat : Int) - 48) := wrap_pos (by omega) (by omega)
    (repeat' (first|refine Run.ct rfl ?_|((first|refine Run.reg mixed ?_|refine Run.condM ?_|refine Run.retP g_r3_Value (Heap.le_refl _) ?_|(refine xo_gs rfl (fun h => ?_) (fun h => ?_) <;> try (cases h; done))) <;> try simp -implicitDefEqProofs only [lt_t hlt, sidx_at hx, e1, e2, e3, wrap_succ (show i + 1 ≤ 9000000000000000000 by omega), go_sem, Nat.reduceEqDiff, Nat.reduceBEq, Nat.reduceAdd, Nat.reduceLeDiff, reduceIte, reduceCtorEq])|(refine ⟨fun h => ?_, fun h => ?_⟩ <;> first|(cases h; done)|try simp only [h])|fail))
    · have : v * 10 + IntKind.u8.wrap ((x.toNat : Int) - 48) > 1000000 := by simpa using h
      rw [hs, if_pos this]
    · have : ¬ v * 10 + IntKind.u8.wrap ((x.toNat : Int) - 48) > 1000000 := by simpa using h
      rw [if_neg this] at hs
      exact ih (i + 1, _) ⟨hlt, by simp only; omega, by simp only; omega, hs⟩ (by simp only; omega)
  · have hge : i = s.length := by omega
    (repeat' (first|refine Run.ct rfl ?_|((first|refine Run.reg mixed ?_|refine Run.condM ?_|refine Run.retP g_r3_Value (Heap.le_refl _) ?_|(refine xo_gs rfl (fun h => ?_) (fun h => ?_) <;> try (cases h; done))) <;> try simp -implicitDefEqProofs only [lt_f hlt, go_sem, Nat.reduceEqDiff, Nat.reduceBEq, Nat.reduceAdd, Nat.reduceLeDiff, reduceIte, reduceCtorEq])|(refine ⟨fun h => ?_, fun h => ?_⟩ <;> first|(cases h; done)|try simp only [h])|fail))
    rw [hs, hge, List.drop_length, valGo]
end Go.Ab

namespace Go.Ab
open Go.Proofs
def sgnB : Str := [40, 41, 44, 61, 124, 43, 45, 42, 47, 37, 60, 59, 95]
def sgn1 (b : UInt8) : Nat := if sgnB.any (b == ·) then 1 else 0
def sgn2 (b c : UInt8) : Bool := ([b, c] == [45, 62]) || ([b, c] == [60, 61]) || ([b, c] == [61, 61])
def signN : Str → Nat
  | [] => 0
  | [b] => sgn1 b
  | b :: c :: _ => if sgn2 b c then 2 else sgn1 b
theorem ge2_f : decide ((2 : Int) ≤ ((1 : Nat) : Int)) = false := rfl
theorem ge2_t (n : Nat) : decide ((2 : Int) ≤ ((n + 1 + 1 : Nat) : Int)) = true := by simp; omega
theorem beq1 (b c : UInt8) : ([b] == [c]) = (b == c) := by
  rw [Bool.eq_iff_iff]; simp
set_option maxHeartbeats 4000000 in
theorem token_sign_ok (s : Str) (σ : Heap) (hs : s ≠ []) : ACalls Try.prog 101 [.d (.str s)] σ (fun v σ' => v = .d (.str (s.take (signN s))) ∧ σ' = σ) := by
  match s, hs with
  | [b], _ =>
    refine i_token_sign (by simp) ?_
    rw [argF_1]
    (repeat' (first|refine Run.ct rfl ?_|((first|refine Run.reg mixed ?_|refine Run.condM ?_|refine Run.retP g_token_sign (Heap.le_refl _) ?_|(refine xo_gs rfl (fun h => ?_) (fun h => ?_) <;> try (cases h; done))) <;> try simp -implicitDefEqProofs only [ge2_f, ssl_1, beq1, go_sem, Nat.reduceEqDiff, Nat.reduceBEq, Nat.reduceAdd, Nat.reduceLeDiff, reduceIte, reduceCtorEq])|(refine ⟨fun h => ?_, fun h => ?_⟩ <;> first|(cases h; done)|try simp only [h])|fail))
    all_goals simp only [signN, sgn1, sgnB, List.any_cons, List.any_nil, Bool.or_false, Bool.false_or, Bool.true_or, Bool.or_true, reduceIte, List.take_succ_cons, List.take_zero, Bool.false_eq_true, and_self, *]
  | b :: c :: r, _ =>
    refine i_token_sign (by simp) ?_
    rw [argF_1]
    (repeat' (first|refine Run.ct rfl ?_|((first|refine Run.reg mixed ?_|refine Run.condM ?_|refine Run.retP g_token_sign (Heap.le_refl _) ?_|(refine xo_gs rfl (fun h => ?_) (fun h => ?_) <;> try (cases h; done))) <;> try simp -implicitDefEqProofs only [ge2_t, ssl_1, ssl_2, beq1, go_sem, Nat.reduceEqDiff, Nat.reduceBEq, Nat.reduceAdd, Nat.reduceLeDiff, reduceIte, reduceCtorEq])|(refine ⟨fun h => ?_, fun h => ?_⟩ <;> first|(cases h; done)|try simp only [h])|fail))
    all_goals simp only [signN, sgn2, sgn1, sgnB, List.any_cons, List.any_nil, Bool.or_false, Bool.false_or, Bool.true_or, Bool.or_true, reduceIte, List.take_succ_cons, List.take_zero, Bool.false_eq_true, and_self, *]
theorem token_small_ok (s : Str) (σ : Heap) (hl : s.length ≤ 1000000000) : ACalls Try.prog 100 [.d (.str s)] σ (fun v σ' => v = .d (.bool (valGo s 0).isSome) ∧ σ' = σ) := by
  refine i_token_small (by simp) ?_
  rw [argF_1]
  (repeat (first
      | refine Run.seq ?_
      | refine Run.skip ?_
      | refine Run.block ?_
      | refine Run.blk ?_
      | refine Run.scope ?_
      | refine Run.scp ?_
      | (refine Run.exit rfl ?_)
      | (refine Run.reg mixed ?_; simp -implicitDefEqProofs only [go_sem, Nat.reduceEqDiff, Nat.reduceBEq, Nat.reduceAdd, Nat.reduceLeDiff, reduceIte, reduceCtorEq])
      | (refine Run.condM ?_; simp -implicitDefEqProofs only [go_sem, Nat.reduceEqDiff, Nat.reduceBEq, Nat.reduceAdd, Nat.reduceLeDiff, reduceIte, reduceCtorEq])))
  refine Run.loopA ?_
  refine Run.loopI ((fun (a0 : AV) (a6 : AV) => fun (y : Nat × Int) => put 0 a0 (put 3 (.d (.int .i64 y.2)) (put 6 a6 (put 7 (.d (.int .i64 y.1)) U)))) _ _) (fun _ => E) (fun _ => σ) (fun y => y.1 ≤ s.length ∧ 0 ≤ y.2 ∧ y.2 ≤ 1000000 ∧ valGo s 0 = valGo (s.drop y.1) y.2) (fun y => s.length - y.1) ?_ (0, 0) ⟨by simp, by simp, by simp, rfl⟩
  rintro ⟨i, v⟩ ⟨hi, h0, h1, hs⟩ ih
  simp only at hi h0 h1 hs
  by_cases hlt : i < s.length
  · obtain ⟨x, hx⟩ := ex_at hlt
    rw [drop_at hx, valGo] at hs
    have hu := u8_nn ((x.toNat : Int) - 48)
    have e1 : IntKind.i64.wrap (v * 10) = v * 10 := wrap_pos (by omega) (by omega)
    have e2 : IntKind.i64.wrap (IntKind.u8.wrap ((x.toNat : Int) - 48)) = IntKind.u8.wrap ((x.toNat : Int) - 48) := wrap_pos (by omega) (by omega)
    have e3 : IntKind.i64.wrap (v * 10 + IntKind.u8.wrap ((x.toNat : Int) - 48)) = v * 10 + IntKind.u8.wrap ((x.toNat : Int) - 48) := wrap_pos (by omega) (by omega)
    (repeat' (first|refine Run.ct rfl ?_|((first|refine Run.reg mixed ?_|refine Run.condM ?_|refine Run.retP g_token_small (Heap.le_refl _) ?_|(refine xo_gs rfl (fun h => ?_) (fun h => ?_) <;> try (cases h; done))) <;> try simp -implicitDefEqProofs only [lt_t hlt, sidx_at hx, e1, e2, e3, wrap_succ (show i + 1 ≤ 9000000000000000000 by omega), go_sem, Nat.reduceEqDiff, Nat.reduceBEq, Nat.reduceAdd, Nat.reduceLeDiff, reduceIte, reduceCtorEq])|(refine ⟨fun h => ?_, fun h => ?_⟩ <;> first|(cases h; done)|try simp only [h])|fail))
    · have : v * 10 + IntKind.u8.wrap ((x.toNat : Int) - 48) > 1000000 := by simpa using h
      rw [hs, if_pos this]; rfl
    · have : ¬ v * 10 + IntKind.u8.wrap ((x.toNat : Int) - 48) > 1000000 := by simpa using h
      rw [if_neg this] at hs
      exact ih (i + 1, _) ⟨hlt, by simp only; omega, by simp only; omega, hs⟩ (by simp only; omega)
  · have hge : i = s.length := by omega
    (repeat' (first|refine Run.ct rfl ?_|((first|refine Run.reg mixed ?_|refine Run.condM ?_|refine Run.retP g_token_small (Heap.le_refl _) ?_|(refine xo_gs rfl (fun h => ?_) (fun h => ?_) <;> try (cases h; done))) <;> try simp -implicitDefEqProofs only [lt_f hlt, go_sem, Nat.reduceEqDiff, Nat.reduceBEq, Nat.reduceAdd, Nat.reduceLeDiff, reduceIte, reduceCtorEq])|(refine ⟨fun h => ?_, fun h => ?_⟩ <;> first|(cases h; done)|try simp only [h])|fail))
    rw [hs, hge, List.drop_length, valGo]; rfl
end Go.Ab
