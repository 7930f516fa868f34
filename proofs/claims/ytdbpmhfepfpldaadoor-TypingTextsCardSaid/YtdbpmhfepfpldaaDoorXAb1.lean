/- A logic of abstract states over the model: data without addresses, and how it lies in memory. Conditions: none. -/
import Derived.Orders
import Derived.Below
import Derived.Laws.AppendOwn
import Derived.Laws.AppendOwnNone
set_option linter.unusedSimpArgs false
set_option linter.unusedVariables false
namespace Go.Ab
open Go.RowKit

/-- Data that is never written again: a slice is the list of its rows of cells. -/
inductive DV where
  | int (k : IntKind) (n : Int)
  | bool (b : Bool)
  | str (s : List UInt8)
  | sl (rows : List (List DV))
  | ptr (row : List DV)
  | nilp

/-- What a slot or a cell of a variable may hold. -/
inductive AV where
  | d (x : DV)
  | nils
  | own (t e size : Nat) (rows : List (List DV))
  | clip (rows : List (List DV))
  | agg (cs : List AV)
  | lp (k off : Nat)
  | gp (i off : Nat)
  | ep (row : List DV) (off : Nat)
  | nilp
  | ms (i n s e : Nat)
  | mv (i off n s e : Nat)
  | bp (t e : Nat) (s : List UInt8)
  | nilf
  | fn (f : FuncId) (first caps : List AV)
  | tup (vs : List AV)
  | undef

def AV.isCell : AV → Bool
  | .agg _ | .lp _ _ | .tup _ | .undef => false
  | _ => true

def AV.cells : AV → List AV
  | .agg cs => cs
  | v => [v]

/-- The shared blocks and the live tokens. -/
structure Heap where
  blk : Nat → Option (List AV)
  tok : Nat → Bool
  gt : Nat → Option (Array Value)
  bt : Nat → Option (Nat × TypeId)

/-- The ghost: settled cells, where shared blocks lie, what tokens stand for. -/
structure Gh where
  im : Nat → Nat → Option Value
  mu : Nat → Option Nat
  tau : Nat → Option (Value × TypeId × Nat)
  rm : Nat → Option (Nat × TypeId)

structure Gh.le (g g' : Gh) : Prop where
  im : ∀ b o v, g.im b o = some v → g'.im b o = some v
  mu : ∀ i b, g.mu i = some b → g'.mu i = some b
  tau : ∀ t x, g.tau t = some x → g'.tau t = some x
  rm : ∀ i n, g.rm i = some n → g'.rm i = some n

theorem Gh.le_refl (g : Gh) : g.le g := ⟨fun _ _ _ h => h, fun _ _ h => h, fun _ _ h => h, fun _ _ h => h⟩
theorem Gh.le_trans {a b c : Gh} (h : a.le b) (k : b.le c) : a.le c :=
  ⟨fun _ _ _ x => k.im _ _ _ (h.im _ _ _ x), fun _ _ x => k.mu _ _ (h.mu _ _ x), fun _ _ x => k.tau _ _ (h.tau _ _ x), fun _ _ x => k.rm _ _ (h.rm _ _ x)⟩

inductive RD (im : Nat → Nat → Option Value) : DV → Value → Prop
  | int {k : IntKind} {n : Int} (h : k.has n) : RD im (.int k n) (.int k n)
  | bool {b : Bool} : RD im (.bool b) (.bool b)
  | str {s : List UInt8} (h : s.length ≤ maxLen) : RD im (.str s) (.string ⟨s.toArray⟩)
  | nil {a : Option Addr} {cap : Nat} (hm : cap ≤ maxLen) (h : a = none → cap = 0) : RD im (.sl []) (.slice a 0 cap)
  | sl {rows : List (List DV)} {b off cap size : Nat} {f : Nat → Nat → Value} (hc : rows.length ≤ cap) (hm : cap ≤ maxLen)
      (hs : ∀ r ∈ rows, r.length = size)
      (hi : ∀ i j, i < rows.length → j < size → im b (off + i * size + j) = some (f i j))
      (hr : ∀ (i : Nat) (r : List DV) (j : Nat) (x : DV), rows[i]? = some r → r[j]? = some x → RD im x (f i j)) :
      RD im (.sl rows) (.slice (some ⟨b, off, none⟩) rows.length cap)
  | ptr {row : List DV} {b o : Nat} {f : Nat → Value} (hi : ∀ j, j < row.length → im b (o + j) = some (f j))
      (hr : ∀ (j : Nat) (x : DV), row[j]? = some x → RD im x (f j)) : RD im (.ptr row) (.pointer (some ⟨b, o, none⟩))
  | nilp : RD im .nilp (.pointer none)

theorem RD.mono {im im' : Nat → Nat → Option Value} (h : ∀ b o v, im b o = some v → im' b o = some v) {x : DV} {v : Value} (hx : RD im x v) : RD im' x v := by
  induction hx with
  | int h => exact .int h
  | bool => exact .bool
  | str h => exact .str h
  | nil hm h => exact .nil hm h
  | sl hc hm hs hi hr ih => exact .sl hc hm hs (fun i j a b => h _ _ _ (hi i j a b)) ih
  | ptr hi hr ih => exact .ptr (fun j hj => h _ _ _ (hi j hj)) ih
  | nilp => exact .nilp

theorem RD.one {im : Nat → Nat → Option Value} {x : DV} {v : Value} (hx : RD im x v) : v.oneCell' = true := by cases hx <;> rfl

inductive VR (g : Gh) : AV → Value → Prop
  | d {x : DV} {v : Value} (h : RD g.im x v) : VR g (.d x) v
  | nils : VR g .nils (.slice none 0 0)
  | own {t e size : Nat} {rows : List (List DV)} {v : Value} (h : RD g.im (.sl rows) v) (ht : g.tau t = some (v, e, size)) (hs : ∀ r ∈ rows, r.length = size) : VR g (.own t e size rows) v
  | clip {rows : List (List DV)} {a : Option Addr} {n : Nat} (h : RD g.im (.sl rows) (.slice a n n)) : VR g (.clip rows) (.slice a n n)
  | agg {cs : List AV} {vs : List Value} (hl : vs.length = cs.length) (hc : ∀ c ∈ cs, c.isCell = true)
      (h : ∀ (i : Nat) (c : AV) (v : Value), cs[i]? = some c → vs[i]? = some v → VR g c v) : VR g (.agg cs) (.agg vs.toArray)
  | gp {i off b : Nat} (h : g.mu i = some b) : VR g (.gp i off) (.pointer (some ⟨b, off, none⟩))
  | ep {row : List DV} {off b o : Nat} {f : Nat → Value} (hi : ∀ j, j < row.length → g.im b (o + j) = some (f j))
      (hr : ∀ j x, row[j]? = some x → RD g.im x (f j)) : VR g (.ep row off) (.pointer (some ⟨b, o + off, none⟩))
  | nilp : VR g .nilp (.pointer none)
  | ms {i n s e b cap : Nat} (h : g.mu i = some b) (hr : g.rm i = some (cap * s, e)) (hn : n ≤ cap) (hm : cap ≤ maxLen) : VR g (.ms i n s e) (.slice (some ⟨b, 0, none⟩) n cap)
  | mv {i off n s e b o cap : Nat} (h : g.mu i = some b) (hr : g.rm i = some (cap * s, e)) (hn : off + n ≤ cap) (hm : cap ≤ maxLen) (ho : off < cap → o = off * s) : VR g (.mv i off n s e) (.slice (some ⟨b, o, none⟩) n (cap - off))
  | bp {t e cap b off : Nat} {s : List UInt8} (ht : g.tau t = some (.slice (some ⟨b, off, none⟩) s.length cap, e, 1)) (him : ∀ (j : Nat) (x : UInt8), s[j]? = some x → g.im b (off + j) = some (.int .u8 x.toNat)) : VR g (.bp t e s) (.pointer (some ⟨b, off, none⟩))
  | nilf : VR g .nilf .nilFunc
  | fn {f : FuncId} {first caps : List AV} {fs cs : List Value} (hl : fs.length = first.length) (hl' : cs.length = caps.length)
      (h : ∀ (i : Nat) (c : AV) (v : Value), first[i]? = some c → fs[i]? = some v → VR g c v)
      (h' : ∀ (i : Nat) (c : AV) (v : Value), caps[i]? = some c → cs[i]? = some v → VR g c v) : VR g (.fn f first caps) (.func (.func f) fs.toArray cs.toArray)
  | tup {cs : List AV} {vs : List Value} (hl : vs.length = cs.length)
      (h : ∀ (i : Nat) (c : AV) (v : Value), cs[i]? = some c → vs[i]? = some v → VR g c v) : VR g (.tup cs) (.tuple vs.toArray)
  | undef {v : Value} : VR g .undef v

theorem VR.mono {g g' : Gh} (hg : g.le g') {x : AV} {v : Value} (hx : VR g x v) : VR g' x v := by
  induction hx with
  | d h => exact .d (h.mono hg.im)
  | nils => exact .nils
  | own h ht hs => exact .own (h.mono hg.im) (hg.tau _ _ ht) hs
  | clip h => exact .clip (h.mono hg.im)
  | agg hl hc _ ih => exact .agg hl hc ih
  | gp h => exact .gp (hg.mu _ _ h)
  | ep hi hr => exact .ep (fun j hj => hg.im _ _ _ (hi j hj)) (fun j x hx => (hr j x hx).mono hg.im)
  | nilp => exact .nilp
  | ms h hr hn hm => exact .ms (hg.mu _ _ h) (hg.rm _ _ hr) hn hm
  | mv h hr hn hm ho => exact .mv (hg.mu _ _ h) (hg.rm _ _ hr) hn hm ho
  | bp ht him => exact .bp (hg.tau _ _ ht) (fun j x hx => hg.im _ _ _ (him j x hx))
  | nilf => exact .nilf
  | fn hl hl' _ _ ih ih' => exact .fn hl hl' ih ih'
  | tup hl _ ih => exact .tup hl ih
  | undef => exact .undef

theorem VR.one {g : Gh} {x : AV} {v : Value} (hc : x.isCell = true) (hx : VR g x v) : v.oneCell' = true := by
  cases hx with
  | d h => exact h.one
  | own h _ _ => exact h.one
  | agg => cases hc
  | tup => cases hc
  | undef => cases hc
  | _ => rfl

inductive VRs (g : Gh) : List AV → List Value → Prop
  | nil : VRs g [] []
  | cons {c : AV} {v : Value} {cs : List AV} {vs : List Value} (h : VR g c v) (hs : VRs g cs vs) : VRs g (c :: cs) (v :: vs)

theorem VRs.mono {g g' : Gh} (hg : g.le g') {cs : List AV} {vs : List Value} (h : VRs g cs vs) : VRs g' cs vs := by
  induction h with
  | nil => exact .nil
  | cons h _ ih => exact .cons (h.mono hg) ih

theorem VRs.length {g : Gh} {cs : List AV} {vs : List Value} (h : VRs g cs vs) : vs.length = cs.length := by
  induction h with
  | nil => rfl
  | cons _ _ ih => simp [ih]

theorem VRs.at {g : Gh} {cs : List AV} {vs : List Value} (h : VRs g cs vs) : ∀ (i : Nat) (c : AV), cs[i]? = some c → ∃ v, vs[i]? = some v ∧ VR g c v := by
  induction h with
  | nil => intro i c hi; simp at hi
  | cons h _ ih =>
    intro i c hi
    cases i with
    | zero => simp at hi; subst hi; exact ⟨_, rfl, h⟩
    | succ i => simpa using ih i c (by simpa using hi)

theorem VRs.of_idx {g : Gh} : ∀ (cs : List AV) (vs : List Value), vs.length = cs.length → (∀ (i : Nat) (c : AV) (v : Value), cs[i]? = some c → vs[i]? = some v → VR g c v) → VRs g cs vs
  | [], [], _, _ => .nil
  | [], _ :: _, h, _ => by simp at h
  | _ :: _, [], h, _ => by simp at h
  | c :: cs, v :: vs, h, k => .cons (k 0 c v rfl rfl) (VRs.of_idx cs vs (by simpa using h) fun i c v hc hv => k (i + 1) c v (by simpa using hc) (by simpa using hv))

theorem VRs.idx {g : Gh} {cs : List AV} {vs : List Value} (h : VRs g cs vs) (i : Nat) (c : AV) (v : Value) (hc : cs[i]? = some c) (hv : vs[i]? = some v) : VR g c v := by
  obtain ⟨u, hu, hr⟩ := h.at i c hc
  rw [hu] at hv; cases hv; exact hr

theorem VRs.append {g : Gh} {cs ds : List AV} {vs us : List Value} (h : VRs g cs vs) (k : VRs g ds us) : VRs g (cs ++ ds) (vs ++ us) := by
  induction h with
  | nil => exact k
  | cons h _ ih => exact .cons h ih

theorem VRs.take {g : Gh} {cs : List AV} {vs : List Value} (h : VRs g cs vs) (n : Nat) : VRs g (cs.take n) (vs.take n) := by
  induction h generalizing n with
  | nil => simpa using .nil
  | cons h _ ih => cases n with
    | zero => simpa using .nil
    | succ n => simpa using .cons h (ih n)

theorem VRs.drop {g : Gh} {cs : List AV} {vs : List Value} (h : VRs g cs vs) (n : Nat) : VRs g (cs.drop n) (vs.drop n) := by
  induction h generalizing n with
  | nil => simpa using .nil
  | cons h hs ih => cases n with
    | zero => simpa using .cons h hs
    | succ n => simpa using ih n

def cellsOk (cs : List AV) : Bool := cs.all AV.isCell

theorem VRs.ones {g : Gh} {cs : List AV} {vs : List Value} (h : VRs g cs vs) (hc : cellsOk cs = true) : ∀ v ∈ vs, v.oneCell' = true := by
  induction h with
  | nil => intro v hv; cases hv
  | cons h _ ih =>
    simp only [cellsOk, List.all_cons, Bool.and_eq_true] at hc
    intro v hv
    cases hv with
    | head => exact h.one hc.1
    | tail _ hv => exact ih hc.2 v hv

/-- A value that can lie in memory, cell by cell. -/
theorem VR.cells {g : Gh} {x : AV} {v : Value} (h : VR g x v) (hc : cellsOk x.cells = true) : VRs g x.cells v.cells.toList := by
  cases h with
  | agg hl _ h => exact VRs.of_idx _ _ (by simpa [Value.cells, AV.cells] using hl) (by simpa [Value.cells, AV.cells] using h)
  | tup => simp [AV.cells, cellsOk, AV.isCell] at hc
  | undef => simp [AV.cells, cellsOk, AV.isCell] at hc
  | d h =>
    have := h.one
    cases v <;> first | (cases h; done) | exact .cons (.d h) .nil
  | own h ht hs =>
    cases h with
    | nil a b => exact .cons (.own (.nil a b) ht hs) .nil
    | sl a b c e f => exact .cons (.own (.sl a b c e f) ht hs) .nil
  | nils => exact .cons .nils .nil
  | clip h => exact .cons (.clip h) .nil
  | gp h => exact .cons (.gp h) .nil
  | ep h k => exact .cons (.ep h k) .nil
  | nilp => exact .cons .nilp .nil
  | ms h hr k hm => exact .cons (.ms h hr k hm) .nil
  | mv h hr k hm ho => exact .cons (.mv h hr k hm ho) .nil
  | bp h k => exact .cons (.bp h k) .nil
  | nilf => exact .cons .nilf .nil
  | fn a b c e => exact .cons (.fn a b c e) .nil

/-- A token's row: the call's own, its spare cells settled by nobody. -/
structure TokOk (base : Nat) (g : Gh) (Pr : Nat → Prop) (σ : Heap) (t : Nat) (w : World) : Prop where
  row : ∃ v e size n xs, g.tau t = some (v, e, size) ∧ w.ownsRow base e size v n xs ∧
    ∀ b, v.ownBlock = some b → (∀ o, n * size ≤ o → g.im b o = none) ∧ ¬ Pr b ∧ (∀ i, σ.blk i ≠ none → g.mu i ≠ some b) ∧
      (∀ t' v' e' s', t' ≠ t → σ.tok t' = true → g.tau t' = some (v', e', s') → v'.ownBlock ≠ some b)

structure ShrOk (base : Nat) (g : Gh) (Pr : Nat → Prop) (rt : Option (Nat × TypeId)) (cs : List AV) (b : Nat) (w : World) : Prop where
  ok : cellsOk cs = true
  row : ∃ vs ty, w.heap[b]? = some (.cells vs ty (0, 0)) ∧ cs.length ≤ vs.size ∧ (∀ t, rt = some t → vs.size = t.1 ∧ ty = t.2) ∧ VRs g cs (vs.toList.take cs.length)
  low : base ≤ b
  im : ∀ o, g.im b o = none
  pr : ¬ Pr b

/-- What never changes again: blocks known as a whole (package variables), and the types of shared blocks. -/
def Heap.St (σ : Heap) (g : Gh) (base : Nat) (w0 : World) : Prop := (∀ b vs, σ.gt b = some vs → b < base ∧ ∃ ty fr, w0.heap[b]? = some (.cells vs ty fr)) ∧ (∀ i x, σ.bt i = some x → g.rm i = some x)

theorem Heap.St.mono {σ σ' : Heap} {g g' : Gh} {base : Nat} {w0 : World} (h : σ.St g base w0) (hg : g.le g') (h1 : σ'.gt = σ.gt) (h2 : σ'.bt = σ.bt) : σ'.St g' base w0 :=
  ⟨fun b vs hv => h.1 b vs (by rw [← h1]; exact hv), fun i x hx => hg.rm _ _ (h.2 i x (by rw [← h2]; exact hx))⟩

structure Rel (base : Nat) (g : Gh) (Pr : Nat → Prop) (σ : Heap) (w0 w : World) : Prop where
  im : ∀ b o v, g.im b o = some v → w.cell? ⟨b, o, none⟩ = some v
  shr : ∀ i cs, σ.blk i = some cs → ∃ b, g.mu i = some b ∧ ShrOk base g Pr (g.rm i) cs b w
  inj : ∀ i j b, σ.blk i ≠ none → σ.blk j ≠ none → g.mu i = some b → g.mu j = some b → i = j
  tok : ∀ t, σ.tok t = true → TokOk base g Pr σ t w
  pr : ∀ b, Pr b → b < w.heap.size ∧ ∀ o, g.im b o = none
  bel : Below base w0 w
  bs : base ≤ w.heap.size
  fin : ∃ n, ∀ i, n ≤ i → g.mu i = none ∧ g.tau i = none ∧ g.rm i = none
  st : σ.St g base w0

def KP (Pr : Nat → Prop) (w w' : World) : Prop := w.heap.size ≤ w'.heap.size ∧ ∀ b, Pr b → w'.heap[b]? = w.heap[b]?

theorem KP.refl (Pr : Nat → Prop) (w : World) : KP Pr w w := ⟨Nat.le_refl _, fun _ _ => rfl⟩
theorem KP.trans {Pr : Nat → Prop} {a b c : World} (h : KP Pr a b) (k : KP Pr b c) : KP Pr a c :=
  ⟨Nat.le_trans h.1 k.1, fun x hx => (k.2 x hx).trans (h.2 x hx)⟩

/-- What a slot holds: a value, or the address of a local block. -/
def SV (g : Gh) (lam : Nat → Option Nat) : AV → Value → Prop
  | .lp k off, v => ∃ b, lam k = some b ∧ v = .pointer (some ⟨b, off, none⟩)
  | x, v => VR g x v

theorem SV.of_vr {g : Gh} {lam : Nat → Option Nat} {x : AV} {v : Value} (h : VR g x v) : SV g lam x v := by
  cases x <;> first | exact h | (cases h; done)

def AV.noLp : AV → Bool
  | .lp _ _ => false
  | _ => true

theorem SV.vr {g : Gh} {lam : Nat → Option Nat} {x : AV} {v : Value} (hn : x.noLp = true) (h : SV g lam x v) : VR g x v := by
  cases x <;> first | exact h | (cases hn; done)

abbrev Fm := Nat → AV
abbrev Lm := Nat → Option (List AV)

structure FRel (base : Nat) (g : Gh) (lam : Nat → Option Nat) (Pr : Nat → Prop) (N : Nat) (F : Fm) (L : Lm) (σ : Heap) (a : Act) (w0 w : World) : Prop where
  tm : ∀ s, SV g lam (F s) (a.tmps.getD s Go.undef)
  sz : a.tmps.size = N
  df : a.defers = []
  loc : ∀ k cs, L k = some cs → cellsOk cs = true ∧ ∃ b vs ty, lam k = some b ∧ base ≤ b ∧ w.heap[b]? = some (.cells vs ty (0, 0)) ∧ VRs g cs vs.toList
  inj : ∀ k k' b, lam k = some b → lam k' = some b → k = k'
  npr : ∀ k b, lam k = some b → ¬ Pr b
  rel : Rel base g (fun b => Pr b ∨ ∃ k, lam k = some b) σ w0 w

/-- The contract of a function, at the abstract level. -/
def ACalls (P : Program) (f : FuncId) (args : List AV) (σ : Heap) (Q : AV → Heap → Prop) : Prop :=
  ∀ (base : Nat) (g : Gh) (Pr : Nat → Prop) (w0 w : World) (vs : List Value), Rel base g Pr σ w0 w → VRs g args vs →
    Calls P f vs.toArray w fun e w' => ∃ v av g' σ', e = .returned v ∧ VR g' av v ∧ Rel base g' Pr σ' w0 w' ∧ g.le g' ∧ KP Pr w w' ∧ Q av σ'

theorem ACalls.mono {P : Program} {f : FuncId} {args : List AV} {σ : Heap} {Q Q' : AV → Heap → Prop} (h : ACalls P f args σ Q) (hq : ∀ v σ', Q v σ' → Q' v σ') : ACalls P f args σ Q' :=
  fun base g Pr w0 w vs hr hv => (h base g Pr w0 w vs hr hv).mono fun _ _ ⟨v, av, g', σ', a, b, c, d, e, q⟩ => ⟨v, av, g', σ', a, b, c, d, e, hq _ _ q⟩

end Go.Ab
