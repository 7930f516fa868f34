/- Compact code, its runs at the abstract level, and contracts out of runs. Conditions: none. -/
import Derived.Scope
import Derived.Test.YtlckhmkeihbhmaaXAb10e
set_option linter.unusedSimpArgs false
namespace Go.Ab
open Go.RowKit
inductive C where
  | skip
  | reg (ops : List Q) (live : List Nat)
  | regT (t : QT) (live : List Nat)
  | seq (x y : C)
  | cond (x : X) (t e : C)
  | block (id : Nat) (c : C)
  | loop (c : C)
  | exit (id : Nat)
  | ret
  | scope (c : C)
  | bad
inductive CI where
  | code (c : C)
  | blk (id : Nat)
  | scp
  | again (c : C)
def compB2 (P : Program) (N : Nat) (esc : List Nat) (pf : List FuncId) (live : List Nat) (pt : PT) (ops : Array Oper) : Option C :=
  match pt with
  | .done => (compD P N esc pf (List.range ops.size) ops).map fun q => .reg q live
  | pt => (compTA P N esc pf pt ops).map fun t => match lin t with
    | some q => .reg q live
    | none => .regT t live
def compC (P : Program) (N : Nat) (esc : List Nat) (pf : List FuncId) : Code → List (List Nat × PT) → Option (C × List (List Nat × PT))
  | .skip, ct => some (.skip, ct)
  | .region _ ops false, (live, _) :: ct => some (((compL P N esc ops (List.range ops.size)).map fun q => C.reg q live).getD .bad, ct)
  | .region _ ops true, (live, pt) :: ct => some ((compB2 P N esc pf live pt ops).getD .bad, ct)
  | .seq x y, ct => (compC P N esc pf x ct).bind fun r => (compC P N esc pf y r.2).map fun r' => (.seq r.1 r'.1, r'.2)
  | .cond c t e, ct => (xo c).bind fun c' => (compC P N esc pf t ct).bind fun r => (compC P N esc pf e r.2).map fun r' => (.cond c' r.1 r'.1, r'.2)
  | .block id c, ct => (compC P N esc pf c ct).map fun r => (.block id r.1, r.2)
  | .loop c, ct => (compC P N esc pf c ct).map fun r => (.loop r.1, r.2)
  | .exit id, ct => some (.exit id, ct)
  | .ret, ct => some (.ret, ct)
  | .scope c, ct => (compC P N esc pf c ct).map fun r => (.scope r.1, r.2)
  | .label _, ct => some (.skip, ct)
  | _, _ => none
inductive RV where
  | t (n : Nat)
  | c (n : Nat) (k : Option Nat)
def compR (P : Program) : List ResultVar → Option (List RV)
  | [] => some []
  | .tmp n :: l => do some (.t n :: (← compR P l))
  | .cell n t :: l => do
    let k ← ldN P t
    some (.c n k :: (← compR P l))
def rvA (F : Fm) (L : Lm) (σ : Heap) : RV → Option AV
  | .t n => some (F n)
  | .c n k => ldA L σ (F n) k
def rvsA (F : Fm) (L : Lm) (σ : Heap) : List RV → Option (List AV)
  | [] => some []
  | r :: l => do some ((← rvA F L σ r) :: (← rvsA F L σ l))
def retA (F : Fm) (L : Lm) (σ : Heap) (rs : List RV) : Option AV :=
  (rvsA F L σ rs).bind fun vs => if vs.all AV.noLp then (match vs with | [v] => some v | vs => some (.tup vs)) else none
def keep (ks : List Nat) (F : Fm) : Fm := fun s => if s ∈ ks then F s else .undef
def keepL (ks : List Nat) (L : Lm) : Lm := fun s => if s ∈ ks then L s else none
variable {P : Program} {base N : Nat} {g g' : Gh} {Pr : Nat → Prop} {σ σ' : Heap} {w0 w w' : World} {lam : Nat → Option Nat} {F F' : Fm} {L L' : Lm} {a : Act}
theorem FRel.weak (h : FRel base g lam Pr N F L σ a w0 w) (hF : ∀ s, F' s = F s ∨ F' s = .undef) (hL : ∀ k cs, L' k = some cs → L k = some cs) (hσ : σ'.le σ) : FRel base g lam Pr N F' L' σ' a w0 w := by
  refine ⟨fun s => ?_, h.sz, h.df, fun k cs hk => h.loc k cs (hL k cs hk), h.inj, h.npr, h.rel.less hσ⟩
  rcases hF s with e | e
  · rw [e]; exact h.tm s
  · rw [e]; exact VR.undef
theorem FRel.kept (h : FRel base g lam Pr N F L σ a w0 w) (ks : List Nat) : FRel base g lam Pr N (keep ks F) (keepL ks L) σ a w0 w :=
  h.weak (fun s => by simp only [keep]; split <;> simp) (fun k cs hk => by simp only [keepL] at hk; split at hk <;> simp_all) (Heap.le_refl σ)
structure Cx where
  P : Program
  f : FuncId
  fn : Func
  N : Nat
  esc : List Nat
  pf : List FuncId
  rs : List RV
def RC (cx : Cx) : C → Code → Prop
  | .skip, k => k = .skip ∨ ∃ l, k = .label l
  | .scope c, k => ∃ p, k = .scope p ∧ RC cx c p
  | .reg ops _, k => ∃ id arr, (k = .region id arr false ∧ compL cx.P cx.N cx.esc arr (List.range arr.size) = some ops) ∨ (k = .region id arr true ∧ ∃ order, compD cx.P cx.N cx.esc cx.pf order arr = some ops) ∨ (k = .region id arr true ∧ ∃ pt t, compTA cx.P cx.N cx.esc cx.pf pt arr = some t ∧ lin t = some ops)
  | .regT t _, k => ∃ id arr pt, k = .region id arr true ∧ compTA cx.P cx.N cx.esc cx.pf pt arr = some t
  | .seq x y, k => ∃ p q, k = .seq p q ∧ RC cx x p ∧ RC cx y q
  | .cond x t e, k => ∃ c p q, k = .cond c p q ∧ xo c = some x ∧ RC cx t p ∧ RC cx e q
  | .block id c, k => ∃ p, k = .block id p ∧ RC cx c p
  | .loop c, k => ∃ p, k = .loop p ∧ RC cx c p
  | .exit id, k => k = .exit id
  | .ret, k => k = .ret
  | .bad, _ => True
theorem compC_rc (cx : Cx) : ∀ (k : Code) (ct : List (List Nat × PT)) (c : C) (ct' : List (List Nat × PT)), compC cx.P cx.N cx.esc cx.pf k ct = some (c, ct') → RC cx c k
  | .skip, ct, c, ct', h => by simp only [compC, Option.some.injEq, Prod.mk.injEq] at h; rw [← h.1]; exact .inl rfl
  | .region id ops dr, ct, c, ct', h => by
    cases ct with
    | nil => cases dr <;> simp only [compC] at h <;> cases h
    | cons lo ct =>
      obtain ⟨live, order⟩ := lo
      cases dr
      · simp only [compC, Option.some.injEq, Prod.mk.injEq] at h
        obtain ⟨rfl, _⟩ := h
        cases hq : compL cx.P cx.N cx.esc ops (List.range ops.size) with
        | none => exact trivial
        | some qs => exact ⟨id, ops, .inl ⟨rfl, hq⟩⟩
      · simp only [compC, Option.some.injEq, Prod.mk.injEq] at h
        obtain ⟨rfl, _⟩ := h
        cases hq : compB2 cx.P cx.N cx.esc cx.pf live order ops with
        | none => exact trivial
        | some c' =>
        simp only [Option.getD_some]
        unfold compB2 at hq
        split at hq
        · simp only [Option.map_eq_some_iff] at hq
          obtain ⟨qs, hq', rfl⟩ := hq
          exact ⟨id, ops, .inr (.inl ⟨rfl, _, hq'⟩)⟩
        · simp only [Option.map_eq_some_iff] at hq
          obtain ⟨t, ht, rfl⟩ := hq
          cases hl : lin t with
          | some q => exact ⟨id, ops, .inr (.inr ⟨rfl, _, t, ht, hl⟩)⟩
          | none => exact ⟨id, ops, _, rfl, ht⟩
  | .seq x y, ct, c, ct', h => by
    simp only [compC, Option.bind_eq_some_iff, Option.map_eq_some_iff, Prod.mk.injEq] at h
    obtain ⟨⟨x', c1⟩, hx, ⟨y', c2⟩, hy, rfl, _⟩ := h
    exact ⟨x, y, rfl, compC_rc cx x _ _ _ hx, compC_rc cx y _ _ _ hy⟩
  | .cond c t e, ct, c2, ct', h => by
    simp only [compC, Option.bind_eq_some_iff, Option.map_eq_some_iff, Prod.mk.injEq] at h
    obtain ⟨x, hx, ⟨t', c1⟩, ht, ⟨e', c3⟩, he, rfl, _⟩ := h
    exact ⟨c, t, e, rfl, hx, compC_rc cx t _ _ _ ht, compC_rc cx e _ _ _ he⟩
  | .block id p, ct, c, ct', h => by
    simp only [compC, Option.map_eq_some_iff, Prod.mk.injEq] at h
    obtain ⟨⟨c', c1⟩, hc, rfl, _⟩ := h
    exact ⟨p, rfl, compC_rc cx p _ _ _ hc⟩
  | .loop p, ct, c, ct', h => by
    simp only [compC, Option.map_eq_some_iff, Prod.mk.injEq] at h
    obtain ⟨⟨c', c1⟩, hc, rfl, _⟩ := h
    exact ⟨p, rfl, compC_rc cx p _ _ _ hc⟩
  | .exit id, ct, c, ct', h => by simp only [compC, Option.some.injEq, Prod.mk.injEq] at h; rw [← h.1]; rfl
  | .ret, ct, c, ct', h => by simp only [compC, Option.some.injEq, Prod.mk.injEq] at h; rw [← h.1]; rfl
  | .rangeFunc .., ct, c, ct', h => by simp only [compC] at h; cases h
  | .scope p, ct, c, ct', h => by
    simp only [compC, Option.map_eq_some_iff, Prod.mk.injEq] at h
    obtain ⟨⟨c', c1⟩, hc, rfl, _⟩ := h
    exact ⟨p, rfl, compC_rc cx p _ _ _ hc⟩
  | .label l, ct, c, ct', h => by simp only [compC, Option.some.injEq, Prod.mk.injEq] at h; rw [← h.1]; exact .inr ⟨l, rfl⟩
  | .goto _, ct, c, ct', h => by simp only [compC] at h; cases h
  | .refuse _, ct, c, ct', h => by simp only [compC] at h; cases h
def RI (cx : Cx) : CI → Item → Prop
  | .code c, y => ∃ k, y = .code k ∧ RC cx c k
  | .blk id, y => y = .inBlock id
  | .scp, y => ∃ k, y = .inScope k
  | .again c, y => ∃ k, y = .inLoop k ∧ RC cx c k
inductive RIs (cx : Cx) : List CI → List Item → Prop
  | nil : RIs cx [] []
  | cons {x : CI} {y : Item} {xs : List CI} {ys : List Item} (h : RI cx x y) (hs : RIs cx xs ys) : RIs cx (x :: xs) (y :: ys)
def Good (cx : Cx) : Prop := cx.P.funcs[cx.f]? = some cx.fn ∧ compR cx.P cx.fn.results.toList = some cx.rs
def Run (cx : Cx) (K : AV → Heap → Prop) (todo : List CI) (F : Fm) (L : Lm) (σ : Heap) : Prop :=
  ∀ (items : List Item) (base : Nat) (g : Gh) (lam : Nat → Option Nat) (Pr : Nat → Prop) (a : Act) (w0 w : World) (b : Frame) (cs : List Frame),
    RIs cx todo items → FRel base g lam Pr cx.N F L σ a w0 w → b.fn = cx.f → b.kind = .normal →
    ∃ v w' fr, Steps cx.P (lone (b.at a items) cs w) (lone fr cs w') ∧ fr.fn = cx.f ∧ fr.leaving cx.P w' (.returned v) ∧
      ∃ av g' σ', VR g' av v ∧ Rel base g' Pr σ' w0 w' ∧ g.le g' ∧ KP Pr w w' ∧ K av σ'
variable {cx : Cx} {K : AV → Heap → Prop} {k : List CI}
theorem Run.weak (hF : ∀ s, F' s = F s ∨ F' s = .undef) (hL : ∀ k cs, L' k = some cs → L k = some cs) (hσ : σ'.le σ) (h : Run cx K k F' L' σ') : Run cx K k F L σ :=
  fun items base g lam Pr a w0 w b cs hi hf hb hk => h items base g lam Pr a w0 w b cs hi (hf.weak hF hL hσ) hb hk
theorem Run.of_step {k' : List CI}
    (hs : ∀ items, RIs cx k items → ∃ items', RIs cx k' items' ∧ ∀ (b : Frame) (a : Act) (cs : List Frame) (w : World), step cx.P (lone (b.at a items) cs w) = .next (lone (b.at a items') cs w))
    (h : Run cx K k' F L σ) : Run cx K k F L σ := by
  intro items base g lam Pr a w0 w b cs hi hf hb hk
  obtain ⟨items', hi', hst⟩ := hs items hi
  obtain ⟨v, w', fr, hss, rest⟩ := h items' base g lam Pr a w0 w b cs hi' hf hb hk
  exact ⟨v, w', fr, .head (hst b a cs w) hss, rest⟩
theorem RIs.code {c : C} {items : List Item} (h : RIs cx (.code c :: k) items) : ∃ p ys, items = .code p :: ys ∧ RC cx c p ∧ RIs cx k ys := by
  cases h with
  | cons hy hys => obtain ⟨p, rfl, hp⟩ := hy; exact ⟨p, _, rfl, hp, hys⟩
theorem RIs.mk_code {c : C} {p : Code} {ys : List Item} (hc : RC cx c p) (h : RIs cx k ys) : RIs cx (.code c :: k) (.code p :: ys) := .cons ⟨p, rfl, hc⟩ h
theorem Run.skip (h : Run cx K k F L σ) : Run cx K (.code .skip :: k) F L σ :=
  h.of_step fun items hi => by
    obtain ⟨p, ys, rfl, hp, hys⟩ := hi.code
    rcases hp with rfl | ⟨l, rfl⟩
    · exact ⟨ys, hys, fun b a cs w => step_skip⟩
    · exact ⟨ys, hys, fun b a cs w => step_label⟩
theorem Run.scope {c : C} (h : Run cx K (.code c :: .scp :: k) F L σ) : Run cx K (.code (.scope c) :: k) F L σ :=
  h.of_step fun items hi => by
    obtain ⟨p, ys, rfl, ⟨p1, rfl, h1⟩, hys⟩ := hi.code
    exact ⟨_, .mk_code h1 (.cons ⟨p1, rfl⟩ hys), fun b a cs w => step_scope⟩
theorem Run.scp (h : Run cx K k F L σ) : Run cx K (.scp :: k) F L σ :=
  h.of_step fun items hi => by
    cases hi with
    | cons hy hys => obtain ⟨p, rfl⟩ := hy; exact ⟨_, hys, fun b a cs w => step_inScope⟩
theorem Run.seq {x y : C} (h : Run cx K (.code x :: .code y :: k) F L σ) : Run cx K (.code (.seq x y) :: k) F L σ :=
  h.of_step fun items hi => by
    obtain ⟨p, ys, rfl, ⟨p1, p2, rfl, h1, h2⟩, hys⟩ := hi.code
    exact ⟨_, .mk_code h1 (.mk_code h2 hys), fun b a cs w => step_seq⟩
theorem Run.block {id : Nat} {c : C} (h : Run cx K (.code c :: .blk id :: k) F L σ) : Run cx K (.code (.block id c) :: k) F L σ :=
  h.of_step fun items hi => by
    obtain ⟨p, ys, rfl, ⟨p1, rfl, h1⟩, hys⟩ := hi.code
    exact ⟨_, .mk_code h1 (.cons rfl hys), fun b a cs w => step_block⟩
theorem Run.blk {id : Nat} (h : Run cx K k F L σ) : Run cx K (.blk id :: k) F L σ :=
  h.of_step fun items hi => by
    cases hi with
    | cons hy hys => cases hy; exact ⟨_, hys, fun b a cs w => step_inBlock⟩
theorem Run.loop {c : C} (h : Run cx K (.code c :: .again c :: k) F L σ) : Run cx K (.code (.loop c) :: k) F L σ :=
  h.of_step fun items hi => by
    obtain ⟨p, ys, rfl, ⟨p1, rfl, h1⟩, hys⟩ := hi.code
    exact ⟨_, .mk_code h1 (.cons ⟨p1, rfl, h1⟩ hys), fun b a cs w => step_loop⟩
theorem Run.again {c : C} (h : Run cx K (.code c :: .again c :: k) F L σ) : Run cx K (.again c :: k) F L σ :=
  h.of_step fun items hi => by
    cases hi with
    | cons hy hys => obtain ⟨p1, rfl, h1⟩ := hy; exact ⟨_, .mk_code h1 (.cons ⟨p1, rfl, h1⟩ hys), fun b a cs w => step_inLoop⟩
def exitC (id : Nat) : List CI → Option (List CI)
  | .blk id' :: k => if id' = id then some k else exitC id k
  | _ :: k => exitC id k
  | [] => none
theorem exitC_sound {id : Nat} : ∀ (k : List CI) (items : List Item) (k' : List CI), RIs cx k items → exitC id k = some k' → ∃ items', exitTo id items = some items' ∧ RIs cx k' items'
  | [], _, _, _, h => by cases h
  | x :: k, items, k', hi, h => by
    cases hi with
    | @cons _ y _ ys hy hys =>
      cases x with
      | code c =>
        obtain ⟨p, rfl, _⟩ := hy
        obtain ⟨i', h1, h2⟩ := exitC_sound k ys k' hys (by simpa [exitC] using h)
        exact ⟨i', by simpa [exitTo] using h1, h2⟩
      | again c =>
        obtain ⟨p, rfl, _⟩ := hy
        obtain ⟨i', h1, h2⟩ := exitC_sound k ys k' hys (by simpa [exitC] using h)
        exact ⟨i', by simpa [exitTo] using h1, h2⟩
      | scp =>
        obtain ⟨p, rfl⟩ := hy
        obtain ⟨i', h1, h2⟩ := exitC_sound k ys k' hys (by simpa [exitC] using h)
        exact ⟨i', by simpa [exitTo] using h1, h2⟩
      | blk id' =>
        cases hy
        simp only [exitC] at h
        split at h
        · rename_i e
          cases h
          exact ⟨ys, by simp [exitTo, e], hys⟩
        · rename_i e
          obtain ⟨i', h1, h2⟩ := exitC_sound k ys k' hys h
          exact ⟨i', by simpa [exitTo, e] using h1, h2⟩
theorem Run.exit {id : Nat} {k' : List CI} (he : exitC id k = some k') (h : Run cx K k' F L σ) : Run cx K (.code (.exit id) :: k) F L σ :=
  h.of_step fun items hi => by
    obtain ⟨p, ys, rfl, hp, hys⟩ := hi.code
    cases hp
    obtain ⟨i', h1, h2⟩ := exitC_sound k ys k' hys he
    exact ⟨i', h2, fun b a cs w => step_exit h1⟩
theorem Run.cond {x : X} {t e : C} {b : Bool} (hx : xv F x = .d (.bool b)) (ht : b = true → Run cx K (.code t :: k) F L σ) (he : b = false → Run cx K (.code e :: k) F L σ) :
    Run cx K (.code (.cond x t e) :: k) F L σ := by
  intro items base g lam Pr a w0 w fb cs hi hf hb hk
  obtain ⟨p, ys, rfl, ⟨c, p1, p2, rfl, hc, h1, h2⟩, hys⟩ := hi.code
  have hv := xo_sound hc hf
  rw [hx] at hv
  have hev : a.eval c = .bool b := by generalize a.eval c = vc at hv; cases hv with | d hh => cases hh; rfl
  cases b with
  | true =>
    obtain ⟨v, w', fr, hs, rest⟩ := ht rfl _ base g lam Pr a w0 w fb cs (.mk_code h1 hys) hf hb hk
    exact ⟨v, w', fr, .head (step_cond hev) hs, rest⟩
  | false =>
    obtain ⟨v, w', fr, hs, rest⟩ := he rfl _ base g lam Pr a w0 w fb cs (.mk_code h2 hys) hf hb hk
    exact ⟨v, w', fr, .head (step_cond hev) hs, rest⟩
def RunL (cx : Cx) (K : AV → Heap → Prop) (k : List CI) (live : List Nat) : Kont := fun F L σ => Run cx K k (keep live F) (keepL live L) σ
theorem Run.reg {ops : List Q} {live : List Nat} (hm : cx.P.follows .mixedOrders = true) (h : XOps cx.P (RunL cx K k live) ops F L σ) : Run cx K (.code (.reg ops live) :: k) F L σ := by
  intro items base g lam Pr a w0 w b cs hi hf hb hk
  obtain ⟨p, ys, rfl, ⟨id, arr, hp⟩, hys⟩ := hi.code
  have hw : p.wp cx.P (fun e a' w' => e = .normal ∧ After base Pr cx.N w0 g w (RunL cx K k live) a' w') a w := by
    rcases hp with ⟨rfl, hc⟩ | ⟨rfl, order, hc⟩ | ⟨rfl, pt, t, hc, hl⟩
    · exact wp_region (xops_sound cx.P arr cx.N cx.esc (RunL cx K k live) _ _ base g lam Pr F L σ a w0 w hc h hf (fun _ _ h => ⟨rfl, h⟩))
    · exact draw_sound hm hc h hf
    · exact drawA_sound hm hc (lin_XT t ops F L σ hl h) hf
  obtain ⟨e, a', w', ⟨he, g', lam', F', L', σ', hle, hkp, hf', hK⟩, harr⟩ := hw b ys cs
  subst he
  obtain ⟨v, w2, fr, hs, hfn, hl, av, g2, σ2, hvr, hrel, hle2, hkp2, hk2⟩ := hK ys base g' lam' Pr a' w0 w' b cs hys (hf'.kept live) hb hk
  exact ⟨v, w2, fr, Steps.trans harr hs, hfn, hl, av, g2, σ2, hvr, hrel, Gh.le_trans hle hle2, hkp.trans hkp2, hk2⟩
theorem Run.regT {t : QT} {live : List Nat} (hm : cx.P.follows .mixedOrders = true) (h : XT cx.P (RunL cx K k live) false t F L σ) : Run cx K (.code (.regT t live) :: k) F L σ := by
  intro items base g lam Pr a w0 w b cs hi hf hb hk
  obtain ⟨p, ys, rfl, ⟨id, arr, pt, rfl, hc⟩, hys⟩ := hi.code
  have hw : (Code.region id arr true).wp cx.P (fun e a' w' => e = .normal ∧ After base Pr cx.N w0 g w (RunL cx K k live) a' w') a w := drawA_sound hm hc h hf
  obtain ⟨e, a', w', ⟨he, g', lam', F', L', σ', hle, hkp, hf', hK⟩, harr⟩ := hw b ys cs
  subst he
  obtain ⟨v, w2, fr, hs, hfn, hl, av, g2, σ2, hvr, hrel, hle2, hkp2, hk2⟩ := hK ys base g' lam' Pr a' w0 w' b cs hys (hf'.kept live) hb hk
  exact ⟨v, w2, fr, Steps.trans harr hs, hfn, hl, av, g2, σ2, hvr, hrel, Gh.le_trans hle hle2, hkp.trans hkp2, hk2⟩
theorem rvs_sound (hf : FRel base g lam Pr N F L σ a w0 w) : ∀ (l : List ResultVar) (rs : List RV) (vs : List AV), compR P l = some rs → rvsA F L σ rs = some vs → vs.all AV.noLp = true →
    ∃ xs : List Value, (l.mapM fun | .tmp t => pure (a.tmps.getD t Go.undef) | .cell ad t => do loadVar t (← asAddr (a.tmps.getD ad Go.undef)) : Sem (List Value)).run P w = .ok xs w ∧ VRs g vs xs
  | [], rs, vs, hc, hv, _ => by
    simp only [compR, Option.some.injEq] at hc; subst hc
    simp only [rvsA, Option.some.injEq] at hv; subst hv
    exact ⟨[], by simp, .nil⟩
  | .tmp n :: l, rs, vs, hc, hv, hn => by
    simp only [compR, Option.bind_eq_bind, Option.bind_eq_some_iff] at hc
    obtain ⟨rs', hrs, he⟩ := hc
    cases he
    simp only [rvsA, Option.bind_eq_bind, Option.bind_eq_some_iff, rvA] at hv
    obtain ⟨v, hv1, vs', hvs, he⟩ := hv
    cases he; cases hv1
    simp only [List.all_cons, Bool.and_eq_true] at hn
    obtain ⟨xs, hx, hr⟩ := rvs_sound hf l rs' vs' hrs hvs hn.2
    exact ⟨a.tmps.getD n Go.undef :: xs, by simp only [List.mapM_cons, Sem.run_bind, Sem.run_pure, Result.andThen_ok, hx], .cons ((hf.tm n).vr hn.1) hr⟩
  | .cell n t :: l, rs, vs, hc, hv, hn => by
    simp only [compR, Option.bind_eq_bind, Option.bind_eq_some_iff] at hc
    obtain ⟨kk, hkk, rs', hrs, he⟩ := hc
    cases he
    simp only [rvsA, Option.bind_eq_bind, Option.bind_eq_some_iff, rvA] at hv
    obtain ⟨v, hv1, vs', hvs, he⟩ := hv
    cases he
    simp only [List.all_cons, Bool.and_eq_true] at hn
    obtain ⟨xs, hx, hr⟩ := rvs_sound hf l rs' vs' hrs hvs hn.2
    obtain ⟨x, hld, hvr⟩ := ld_sound (P := P) hkk hf (hf.tm n) hv1
    have hasaddr : (do loadVar t (← asAddr (a.tmps.getD n Go.undef)) : Sem Value).run P w = .ok x w := by
      have hs := hf.tm n
      generalize a.tmps.getD n Go.undef = pn at hs hld
      cases hp : pn <;> simp only [hp, Instr.loadAt, Instr.sureAddr] at hld <;> try (simp at hld; done)
      rename_i ad
      cases ad with
      | none => simp at hld
      | some ad => simpa [asAddr, Instr.sureAddr] using hld
    exact ⟨x :: xs, by simp only [Sem.run_bind] at hasaddr; simp only [List.mapM_cons, Sem.run_bind, hasaddr, hx, Result.andThen_ok, Sem.run_pure], .cons hvr hr⟩
theorem ret_sound {fn : Func} {rs : List RV} (hc : compR P fn.results.toList = some rs) (hf : FRel base g lam Pr N F L σ a w0 w) {v : AV} (hv : retA F L σ rs = some v) :
    ∃ x, (results fn a.tmps).run P w = .ok x w ∧ VR g v x := by
  simp only [retA, Option.bind_eq_some_iff] at hv
  obtain ⟨vs, hvs, hv⟩ := hv
  split at hv
  case isFalse => cases hv
  rename_i hn
  obtain ⟨xs, hx, hr⟩ := rvs_sound (P := P) hf _ rs vs hc hvs hn
  have hrun : (results fn a.tmps).run P w = .ok (if h : xs.toArray.size = 1 then xs.toArray[0] else .tuple xs.toArray) w := by
    unfold results
    rw [Array.mapM_eq_mapM_toList]
    simp only [Sem.run_bind, Sem.run_map, Sem.run_pure]
    exact congrArg (fun r : Result (List Value) => (r.andThen fun a w' => Result.ok a.toArray w').andThen fun (a : Array Value) w' => Result.ok (if h : a.size = 1 then a[0] else Value.tuple a) w') hx
  have hlen := hr.length
  cases vs with
  | nil =>
    cases hv
    cases hr
    exact ⟨_, hrun, by simpa using VR.tup (g := g) (cs := []) (vs := []) rfl (by simp)⟩
  | cons v1 vs =>
    cases vs with
    | nil =>
      cases hv
      cases hr with | cons h1 h2 => cases h2; exact ⟨_, hrun, by simpa using h1⟩
    | cons v2 vs =>
      cases hv
      refine ⟨_, hrun, ?_⟩
      have hne : ¬ xs.toArray.size = 1 := by simp at hlen ⊢; omega
      rw [dif_neg hne]
      exact .tup hr.length hr.idx
theorem Run.fin {σ2 : Heap} (hg : Good cx) {v v' : AV} (hv : retA F L σ cx.rs = some v) (hw : ∀ g x, VR g v x → VR g v' x) (hσ : σ2.le σ) (hK : K v' σ2) : Run cx K [] F L σ := by
  intro items base g lam Pr a w0 w b cs hi hf hb hk
  cases hi
  obtain ⟨x, hx, hvr⟩ := ret_sound hg.2 hf hv
  refine ⟨x, w, _, .one step_end, hb, ⟨rfl, hf.df, hk, cx.fn, by show cx.P.funcs[b.fn]? = _; rw [hb]; exact hg.1, hx⟩, v', g, σ2, hw g x hvr, ?_, Gh.le_refl g, KP.refl Pr w, hK⟩
  exact (hf.rel.less hσ).grow (Nat.le_refl _) (fun _ _ _ => rfl) (Below.refl _ _) (fun b hp => ⟨(hf.rel.pr b (.inl hp)).1, .inl (.inl hp)⟩)
theorem Run.ret {σ2 : Heap} (hg : Good cx) {v v' : AV} (hv : retA F L σ cx.rs = some v) (hw : ∀ g x, VR g v x → VR g v' x) (hσ : σ2.le σ) (hK : K v' σ2) : Run cx K (.code .ret :: k) F L σ := by
  intro items base g lam Pr a w0 w b cs hi hf hb hk
  obtain ⟨p, ys, rfl, hp, hys⟩ := hi.code
  cases hp
  obtain ⟨x, hx, hvr⟩ := ret_sound hg.2 hf hv
  refine ⟨x, w, _, .one step_ret, hb, ⟨rfl, hf.df, hk, cx.fn, by show cx.P.funcs[b.fn]? = _; rw [hb]; exact hg.1, hx⟩, v', g, σ2, hw g x hvr, ?_, Gh.le_refl g, KP.refl Pr w, hK⟩
  exact (hf.rel.less hσ).grow (Nat.le_refl _) (fun _ _ _ => rfl) (Below.refl _ _) (fun b hp => ⟨(hf.rel.pr b (.inl hp)).1, .inl (.inl hp)⟩)
def argF (args : List AV) : Fm := fun s => args.getD s .undef
theorem acalls_of {args : List AV} {c : C} {code : Code} (hg : Good cx) (hb : cx.fn.body = some code) (hN : cx.fn.ntmps = cx.N) (hl : args.length ≤ cx.N) (hc : RC cx c code)
    (h : Run cx K [.code c] (argF args) (fun _ => none) σ) : ACalls cx.P cx.f args σ K := by
  intro base g Pr w0 w vs hrel hvs cs
  let b : Frame := { (default : Frame) with fn := cx.f, kind := .normal }
  have henter : Frame.enter cx.P cx.f vs.toArray .normal = b.at { tmps := vs.toArray ++ Array.replicate (cx.fn.ntmps - vs.toArray.size) Go.undef, defers := [] } [.code code] := by
    simp [Frame.enter, Frame.at, hg.1, hb, b]
  have hvl := hvs.length
  have hf : FRel base g (fun _ => none) Pr cx.N (argF args) (fun _ => none) σ { tmps := vs.toArray ++ Array.replicate (cx.fn.ntmps - vs.toArray.size) Go.undef, defers := [] } w0 w := by
    refine ⟨fun s => ?_, by simp; omega, rfl, fun k cs hk => (by cases hk), fun k k' b hk => (by cases hk), fun k b hk => (by cases hk), ?_⟩
    · simp only [argF, List.getD_eq_getElem?_getD]
      cases hs : args[s]? with
      | none => exact VR.undef
      | some av =>
        obtain ⟨v, hv, hr⟩ := hvs.at s av hs
        have hlt := (List.getElem?_eq_some_iff.1 hv).1
        have : (vs.toArray ++ Array.replicate (cx.fn.ntmps - vs.toArray.size) Go.undef).getD s Go.undef = v := by
          simp only [Array.getD_eq_getD_getElem?]
          rw [Array.getElem?_append_left (by simpa using hlt)]
          simp [hv]
        show SV g _ av ((vs.toArray ++ Array.replicate (cx.fn.ntmps - vs.toArray.size) Go.undef).getD s Go.undef)
        rw [this]; exact SV.of_vr hr
    · exact hrel.grow (Nat.le_refl _) (fun _ _ _ => rfl) (Below.refl _ _) (fun b hp => by
        rcases hp with hp | ⟨k, hk⟩
        · exact ⟨(hrel.pr b hp).1, .inl hp⟩
        · cases hk)
  obtain ⟨v, w', fr, hs, hfn, hlv, av, g', σ', h1, h2, h3, h4, h5⟩ := h [.code code] base g _ Pr _ w0 w b cs (.mk_code hc .nil) hf rfl rfl
  rw [← henter] at hs
  exact ⟨.returned v, w', fr, ⟨v, av, g', σ', rfl, h1, h2, h3, h4, h5⟩, hs, hfn, hlv⟩
end Go.Ab
