/- Regions that draw their order, continued: where operations do not commute, every order is looked at. Conditions: none. -/
import Derived.Test.YtdbpmhfepfpldaaDoorXAb10c
set_option linter.unusedSimpArgs false
set_option linter.unusedVariables false
namespace Go.Ab
open Go.RowKit

variable {P : Program} {base N : Nat} {g g' : Gh} {Pr : Nat → Prop} {σ σ' : Heap} {w0 w w' : World} {lam : Nat → Option Nat} {F : Fm} {L : Lm} {a : Act} {K : Kont}

theorem XO_all {o : O} {dst : Option Nat} {K' : Kont} (hk : ∀ F L σ, K F L σ → K' F L σ) (hx : XO P dst K F L σ o) : XO P dst K' F L σ o := by
  by_cases hV : isV o = true
  · rw [XO_V hV] at hx ⊢
    obtain ⟨v, h1, h2⟩ := hx
    exact ⟨v, h1, hk _ _ _ h2⟩
  · cases o <;> simp only [isV, not_true_eq_false] at hV
    case box x sh =>
      simp only [XO, XNew] at hx ⊢
      refine ⟨hx.1, ?_⟩
      have hx := hx.2
      cases dst with
      | none => exact hx.elim
      | some d => cases sh with
        | true => exact fun i hi => hk _ _ _ (hx i hi)
        | false => exact hk _ _ _ hx
    case al z sh =>
      simp only [XO, XNew] at hx ⊢
      refine ⟨hx.1, ?_⟩
      have hx := hx.2
      cases dst with
      | none => exact hx.elim
      | some d => cases sh with
        | true => exact fun i hi => hk _ _ _ (hx i hi)
        | false => exact hk _ _ _ hx
    case st x v n =>
      simp only [XO, XSt] at hx ⊢
      obtain ⟨h1, h2, h3, h4⟩ := hx
      refine ⟨h1, h2, h3, ?_⟩
      split at h4
      · exact hk _ _ _ h4
      · exact h4.elim
    case msl e s b z l c =>
      obtain ⟨k, k', n, h1, h2, h3, h4, h5, h6⟩ := hx
      exact ⟨k, k', n, h1, h2, h3, h4, h5, fun i hi => hk _ _ _ (h6 i hi)⟩
    case appm e s b x y =>
      obtain ⟨n, cs, σ1, srows, h1, h2, h3, h4, h5, h6, h7⟩ := hx
      exact ⟨n, cs, σ1, srows, h1, h2, h3, fun e => hk _ _ _ (h4 e), h5, h6, fun e t ht => hk _ _ _ (h7 e t ht)⟩
    case trn x y =>
      obtain ⟨k, s, e, cs, σ1, h1, h2⟩ := hx
      exact ⟨k, s, e, cs, σ1, h1, fun t ht => hk _ _ _ (h2 t ht)⟩
    case bslm e s l z ps =>
      obtain ⟨cs, h1, h2⟩ := hx
      exact ⟨cs, h1, fun t ht => hk _ _ _ (h2 t ht)⟩
    case app e s b x y =>
      obtain ⟨rows, σ1, srows, h1, h2, h3, h4, h5, h6⟩ := hx
      exact ⟨rows, σ1, srows, h1, h2, h3, h4, h5, fun t ht => hk _ _ _ (h6 t ht)⟩
    case call f args =>
      obtain ⟨h1, R, h2, h3⟩ := hx
      exact ⟨h1, R, h2, fun v σ' hv => hk _ _ _ (h3 v σ' hv)⟩
    case callv x args =>
      obtain ⟨f, first, caps, h0, hb, h1, R, h2, h3⟩ := hx
      exact ⟨f, first, caps, h0, hb, h1, R, h2, fun v σ' hv => hk _ _ _ (h3 v σ' hv)⟩
    case ex k xs =>
      simp only [XO, XEx, hV, Bool.false_eq_true, if_false] at hx ⊢
      exact ⟨hx.1, hx.2.mono fun v σ' _ hv => hk _ _ _ hv⟩

theorem XQ_all {q : Q} {K' : Kont} (hk : ∀ F L σ, K F L σ → K' F L σ) (hx : XQ P q K F L σ) : XQ P q K' F L σ := by
  unfold XQ at hx ⊢
  cases hc : gd F q.grd with
  | none => rw [hc] at hx; exact hx.elim
  | some b =>
    rw [hc] at hx
    cases b
    · exact hk _ _ _ hx
    · exact XO_all hk hx

/-- A plan: 'one': this operation next; 'alt': this one next, or one of those behind it. -/
inductive PT where
  | done
  | one (i : Nat) (t : PT)
  | alt (i : Nat) (t r : PT)
  | lay (i : Nat) (t : PT)

inductive QT where
  | done
  | one (q : Q) (t : QT)
  | alt (q : Q) (t r : QT)

def XT (P : Program) (K : Kont) : Bool → QT → Kont
  | false, .done => K
  | true, .done => fun _ _ _ => True
  | _, .one q t => XQ P q (XT P K false t)
  | _, .alt q t r => fun F L σ => XQ P q (XT P K false t) F L σ ∧ XT P K true r F L σ

def PT.depth : PT → Nat
  | .done => 0
  | .one _ t => t.depth + 1
  | .alt _ t r => max (t.depth + 1) r.depth
  | .lay _ t => t.depth + 1

def pickT (qs : List Q) : PT → Option QT
  | .done => some .done
  | .one i t => (qs[i]?).bind fun q => (pickT qs t).map (.one q ·)
  | .alt i t r => (qs[i]?).bind fun q => (pickT qs t).bind fun t' => (pickT qs r).map (.alt q t' ·)
  | .lay i t => (qs[i]?).bind fun q => (pickT qs t).map (.one q ·)

/-- 'excl': none: a plan for what comes next; some l: these have been looked at. -/
def planT (ops : Array Oper) (tab : Array Nat) (qs : List Q) : PT → Array Bool → Option (List Nat) → Bool
  | .done, listed, none => (Region.ready .any ops listed).isEmpty
  | .done, listed, some l => (Region.ready .any ops listed).all (l.contains ·)
  | .one i t, listed, none => (Region.ready .any ops listed).contains i && (Region.ready .any ops listed == [i] || okFirst tab qs listed i) && planT ops tab qs t (listed.setIfInBounds i true) none
  | .one i t, listed, some l => (Region.ready .any ops listed).contains i && (Region.ready .any ops listed).all (fun j => j == i || l.contains j) && planT ops tab qs t (listed.setIfInBounds i true) none
  | .alt i t r, listed, e => (Region.ready .any ops listed).contains i && planT ops tab qs t (listed.setIfInBounds i true) none && planT ops tab qs r listed (some (i :: e.getD []))
  | .lay _ _, _, _ => false

theorem xt_main {ops : Array Oper} {tab : Array Nat} (htab : ∀ j i, (tab.getD j 0).testBit i = true → Anc ops j i) {qs : List Q} : ∀ (t : PT) (qt : QT), pickT qs t = some qt →
    (∀ n listed F L σ, t.depth ≤ n → planT ops tab qs t listed none = true → Closed ops listed → listed.size = ops.size → XT P K false qt F L σ → XAny P ops qs K n listed F L σ) ∧
    (∀ n listed l F L σ, t.depth ≤ n + 1 → planT ops tab qs t listed (some l) = true → Closed ops listed → listed.size = ops.size → XT P K true qt F L σ →
      ∀ j ∈ Region.ready .any ops listed, j ∉ l → ∃ q, qs[j]? = some q ∧ XQ P q (XAny P ops qs K n (listed.setIfInBounds j true)) F L σ)
  | .done, qt, hp => by
    simp only [pickT, Option.some.injEq] at hp; subst hp
    refine ⟨fun n listed F L σ _ hp _ _ hx => ?_, fun n listed l F L σ _ hp _ _ _ j hj hjl => ?_⟩
    · simp only [planT, List.isEmpty_iff] at hp
      cases n with
      | zero => exact ⟨hp, hx⟩
      | succ n => exact ⟨fun _ => hx, fun i hi => by rw [hp] at hi; cases hi⟩
    · simp only [planT, List.all_eq_true, List.contains_iff_mem] at hp
      exact absurd (hp j hj) hjl
  | .one i t, qt, hp => by
    simp only [pickT, Option.bind_eq_some_iff, Option.map_eq_some_iff] at hp
    obtain ⟨q, hq, t', ht', rfl⟩ := hp
    obtain ⟨ih, _⟩ := xt_main htab t t' ht'
    refine ⟨fun n listed F L σ hd hp hcl hsz hx => ?_, fun n listed l F L σ hd hp hcl hsz hx j hj hjl => ?_⟩
    · simp only [PT.depth] at hd
      obtain ⟨m, rfl⟩ : ∃ m, n = m + 1 := ⟨n - 1, by omega⟩
      simp only [planT, Bool.and_eq_true, Bool.or_eq_true, List.contains_iff_mem, beq_iff_eq] at hp
      obtain ⟨⟨hr, hok⟩, hrest⟩ := hp
      have hx : XQ P q (XT P K false t') F L σ := hx
      have ih' := fun F L σ => ih m (listed.setIfInBounds i true) F L σ (by omega) hrest (hcl.set hr) (by simpa using hsz)
      rcases hok with hok | hok
      · refine ⟨fun h => (by rw [h] at hr; cases hr), fun j hj => ?_⟩
        rw [hok] at hj
        simp only [List.mem_singleton] at hj
        subst hj
        exact ⟨_, hq, XQ_all (fun F L σ h => ih' F L σ h) hx⟩
      · unfold okFirst at hok
        rw [hq] at hok
        simp only [Bool.and_eq_true, List.all_eq_true] at hok
        obtain ⟨v, hy, hk⟩ := (XQ_V hok.1 _).1 hx
        refine xany_first htab hq hok.1 m listed F L σ v hcl hsz (fun j qj hj hji hun => ?_) hr hy (ih' _ _ _ hk)
        have hmem : (qj, j) ∈ qs.zipIdx := by
          rw [List.mem_zipIdx_iff_getElem?]; exact hj
        have := hok.2 (qj, j) hmem
        simp only [Bool.or_eq_true, beq_iff_eq] at this
        rcases this with (h | h) | h
        · exact absurd h hji
        · rw [hun] at h; cases h
        · exact h
    · simp only [PT.depth] at hd
      simp only [planT, Bool.and_eq_true, List.all_eq_true, List.contains_iff_mem, Bool.or_eq_true, beq_iff_eq] at hp
      obtain ⟨⟨hr, hall⟩, hrest⟩ := hp
      have hx : XQ P q (XT P K false t') F L σ := hx
      rcases hall j hj with rfl | h
      · exact ⟨q, hq, XQ_all (fun F L σ h => ih n _ F L σ (by omega) hrest (hcl.set hr) (by simpa using hsz) h) hx⟩
      · exact absurd h hjl
  | .alt i t r, qt, hp => by
    simp only [pickT, Option.bind_eq_some_iff, Option.map_eq_some_iff] at hp
    obtain ⟨q, hq, t', ht', r', hr', rfl⟩ := hp
    obtain ⟨ih, _⟩ := xt_main htab t t' ht'
    obtain ⟨_, ihr⟩ := xt_main htab r r' hr'
    refine ⟨fun n listed F L σ hd hp hcl hsz hx => ?_, fun n listed l F L σ hd hp hcl hsz hx j hj hjl => ?_⟩
    · simp only [PT.depth] at hd
      obtain ⟨m, rfl⟩ : ∃ m, n = m + 1 := ⟨n - 1, by omega⟩
      simp only [planT, Bool.and_eq_true, List.contains_iff_mem, Option.getD_none] at hp
      obtain ⟨⟨hr, hrest⟩, hp2⟩ := hp
      obtain ⟨hx1, hx2⟩ := hx
      refine ⟨fun h => (by rw [h] at hr; cases hr), fun j hj => ?_⟩
      by_cases hji : j = i
      · subst hji
        exact ⟨q, hq, XQ_all (fun F L σ h => ih m _ F L σ (by omega) hrest (hcl.set hr) (by simpa using hsz) h) hx1⟩
      · exact ihr m listed [i] F L σ (by omega) hp2 hcl hsz hx2 j hj (by simpa using hji)
    · simp only [PT.depth] at hd
      simp only [planT, Bool.and_eq_true, List.contains_iff_mem, Option.getD_some] at hp
      obtain ⟨⟨hr, hrest⟩, hp2⟩ := hp
      obtain ⟨hx1, hx2⟩ := hx
      by_cases hji : j = i
      · subst hji
        exact ⟨q, hq, XQ_all (fun F L σ h => ih n _ F L σ (by omega) hrest (hcl.set hr) (by simpa using hsz) h) hx1⟩
      · exact ihr n listed (i :: l) F L σ (by omega) hp2 hcl hsz hx2 j hj (by simp [hji, hjl])
  | .lay i t, qt, hp => ⟨fun n listed F L σ _ hp => by simp [planT] at hp, fun n listed l F L σ _ hp => by simp [planT] at hp⟩

def linPT : List Nat → PT
  | [] => .done
  | i :: l => .one i (linPT l)

def compT (P : Program) (N : Nat) (esc : List Nat) (pf : List FuncId) (pt : PT) (ops : Array Oper) : Option QT := do
  let qs ← compL P N esc ops (List.range ops.size)
  let qs := qs.map (toP pf)
  if planT ops (ancTab ops.toList #[]) qs pt (Array.replicate ops.size false) none && decide (pt.depth ≤ ops.size) then pickT qs pt else none

theorem drawT_sound {ops : Array Oper} {esc : List Nat} {pf : List FuncId} {pt : PT} {qt : QT} (hm : P.follows .mixedOrders = true) (hc : compT P N esc pf pt ops = some qt) (hx : XT P K false qt F L σ)
    (h : FRel base g lam Pr N F L σ a w0 w) {id : Nat} : (Code.region id ops true).wp P (fun e a' w' => e = .normal ∧ After base Pr N w0 g w K a' w') a w := by
  simp only [compT, Option.bind_eq_bind, Option.bind_eq_some_iff] at hc
  obtain ⟨qs0, hq0, hc⟩ := hc
  split at hc
  case isFalse => cases hc
  rename_i hp
  simp only [Bool.and_eq_true, decide_eq_true_eq] at hp
  have hlen := compL_length _ _ hq0
  have hcl : Closed ops (Array.replicate ops.size false) := by
    intro j o ho hj
    have : (Array.replicate ops.size false).getD j false = false := by
      simp only [Array.getD_eq_getD_getElem?, Array.getElem?_replicate]; split <;> rfl
    rw [this] at hj; cases hj
  have hany := (xt_main (P := P) (K := K) (fun j i => tab_sound) pt qt hc).1 ops.size _ F L σ hp.2 hp.1 hcl (by simp) hx
  refine wp_region_any hm ?_
  have hdrew : FRel base g lam Pr N F L σ a w0 { w with drawn := w.drawn + 1 } :=
    h.step (w' := w.drew) (Gh.le_refl g) (fun k b hb => rfl) (h.rel.grow (w' := w.drew) (Nat.le_refl _) (fun _ _ _ => rfl) ((Below.refl base w).drew) (fun b hb => ⟨(h.rel.pr b hb).1, .inl hb⟩))
  exact xany_sound hq0 K _ _ base g lam Pr F L σ a w0 _ hany hdrew (fun a' w' hA => ⟨rfl, After.trans (Gh.le_refl g) ⟨Nat.le_refl _, fun _ _ => rfl⟩ hA⟩)

end Go.Ab
