/- Regions that draw their order: one order, chosen well, stands for all. Conditions: none. -/
import Derived.Test.YtlckhmkeihbhmaaXAb10
set_option linter.unusedSimpArgs false
namespace Go.Ab
open Go.RowKit
variable {P : Program} {base N : Nat} {g g' : Gh} {Pr : Nat → Prop} {σ σ' : Heap} {w0 w w' : World} {lam : Nat → Option Nat} {F : Fm} {L : Lm} {a : Act}
def isV : O → Bool
  | .box _ _ | .al _ _ | .st _ _ _ | .msl _ _ _ _ _ _ | .app _ _ _ _ _ | .call _ _ | .callv _ _ | .appm _ _ _ _ _ | .trn _ _ | .bslm _ _ _ _ _ => false
  | .ex k _ => k.pure
  | _ => true
def pureO : O → Bool
  | .ld _ _ | .pcall _ _ | .ldl _ _ => false
  | o => isV o
def locO : O → Bool
  | .ldl _ _ => true
  | o => pureO o
def quietO : O → Bool
  | .st _ _ _ => false
  | .box _ sh | .al _ sh => sh
  | _ => true
def tameO : O → Bool
  | .box _ sh | .al _ sh => sh
  | _ => true
def tmpX : X → List Nat
  | .t n => [n]
  | .c _ => []
def tmpXs (l : List X) : List Nat := l.flatMap tmpX
def tmpXo : Option X → List Nat
  | none => []
  | some x => tmpX x
def looksO : O → List Nat
  | .mv x | .fld x _ | .ld x _ | .len x | .slen x | .un _ x | .conv _ x | .ext x _ | .nck x | .box x _ | .ldl x _ | .fd x _ _ | .pnil _ x | .boxi x => tmpX x
  | .ssl x lo hi => tmpX x ++ tmpXo lo ++ tmpXo hi
  | .sls x lo hi mx _ => tmpX x ++ tmpXo lo ++ tmpXo hi ++ tmpXo mx
  | .mm3 _ x y z => tmpX x ++ tmpX y ++ tmpX z
  | .steq _ _ x y => tmpX x ++ tmpX y
  | .pick x y z => tmpX x ++ tmpX y ++ tmpX z
  | .ix x y _ | .sidx x y | .bin _ x y | .binb _ x y | .mm _ x y | .st x y _ | .msl _ _ _ _ x y | .app _ _ _ x y | .appm _ _ _ x y | .trn x y => tmpX x ++ tmpX y
  | .bld _ ps | .bsl _ _ _ ps | .bslm _ _ _ _ ps => ps.flatMap fun p => tmpX p.2.2
  | .mkf _ x y => tmpXs x ++ tmpXs y
  | .al _ _ => []
  | .call _ args | .pcall _ args | .ex _ args => tmpXs args
  | .callv x args => tmpX x ++ tmpXs args
def Q.looks (q : Q) : List Nat := looksO q.o ++ (match q.grd with | some (s, _) => [s] | none => [])
theorem xv_congr {F F' : Fm} {x : X} (h : ∀ s ∈ tmpX x, F s = F' s) : xv F x = xv F' x := by
  cases x with
  | t n => exact h n (by simp [tmpX])
  | c v => rfl
theorem xvo_congr {F F' : Fm} {x : Option X} (h : ∀ s ∈ tmpXo x, F s = F' s) : x.map (xv F) = x.map (xv F') := by
  cases x with
  | none => rfl
  | some x => simp only [Option.map_some]; rw [xv_congr h]
theorem xvs_congr {F F' : Fm} {l : List X} (h : ∀ s ∈ tmpXs l, F s = F' s) : xvs F l = xvs F' l := by
  unfold xvs
  refine List.map_congr_left fun x hx => xv_congr fun s hs => h s ?_
  exact List.mem_flatMap.2 ⟨x, hx, hs⟩
theorem fillA_congr {F F' : Fm} : ∀ (ps : List (Nat × Nat × X)) (z : List AV), (∀ s ∈ ps.flatMap (fun p => tmpX p.2.2), F s = F' s) → fillA z F ps = fillA z F' ps
  | [], z, _ => rfl
  | (off, n, x) :: ps, z, h => by
    have e : xv F x = xv F' x := xv_congr fun s hs => h s (by simp [hs])
    simp only [fillA, e]
    rw [fillA_congr ps _ (fun s hs => h s (by simp only [List.flatMap_cons, List.mem_append]; exact .inr hs))]
theorem pv_congr {F F' : Fm} {o : O} (h : ∀ s ∈ looksO o, F s = F' s) : pv F L σ o = pv F' L σ o := by
  cases o <;> simp only [looksO, List.mem_append] at h <;> simp only [pv] <;> first
    | rw [xv_congr h]
    | rw [xv_congr (fun s hs => h s (.inl (.inl (.inl hs)))), xvo_congr (fun s hs => h s (.inl (.inl (.inr hs)))), xvo_congr (fun s hs => h s (.inl (.inr hs))), xvo_congr (fun s hs => h s (.inr hs))]
    | rw [xv_congr (fun s hs => h s (.inl (.inl hs))), xvo_congr (fun s hs => h s (.inl (.inr hs))), xvo_congr (fun s hs => h s (.inr hs))]
    | rw [xv_congr (fun s hs => h s (.inl hs)), xv_congr (fun s hs => h s (.inr hs))]
    | rw [xv_congr (fun s hs => h s (.inl (.inl hs))), xv_congr (fun s hs => h s (.inl (.inr hs))), xv_congr (fun s hs => h s (.inr hs))]
    | rw [fillA_congr _ _ h]
    | rw [xvs_congr h]
    | rw [xvs_congr (fun s hs => h s (.inl hs)), xvs_congr (fun s hs => h s (.inr hs))]
    | rfl
theorem pv_pure {o : O} (h : pureO o = true) (L' : Lm) (σ' : Heap) : pv F L σ o = pv F L' σ' o := by
  cases o <;> first | rfl | (cases h; done)
theorem pv_loc {o : O} (h : locO o = true) (σ' : Heap) : pv F L σ o = pv F L σ' o := by
  cases o <;> first | rfl | (cases h; done)
def Yv (P : Program) (F : Fm) (L : Lm) (σ : Heap) (v : AV) : O → Prop
  | .pcall f args => (xvs F args).all AV.noLp = true ∧ v.noLp = true ∧ ACalls P f (xvs F args) σ (fun v' σ' => v' = v ∧ σ' = σ)
  | o => pv F L σ o = some v
theorem Yv_congr {F F' : Fm} {v : AV} {o : O} (h : ∀ s ∈ looksO o, F s = F' s) (hy : Yv P F L σ v o) : Yv P F' L σ v o := by
  cases o <;> first
    | (simp only [Yv] at hy ⊢; rw [← pv_congr h]; exact hy)
    | (simp only [Yv, looksO] at *; rw [← xvs_congr h]; exact hy)
theorem Yv_pure {v : AV} {o : O} (h : pureO o = true) (L' : Lm) (σ' : Heap) (hy : Yv P F L σ v o) : Yv P F L' σ' v o := by
  cases o <;> first | (cases h; done) | (simp only [Yv] at hy ⊢; rw [← pv_pure h L' σ']; exact hy)
theorem Yv_loc {v : AV} {o : O} (h : locO o = true) (σ' : Heap) (hy : Yv P F L σ v o) : Yv P F L σ' v o := by
  cases o <;> first | (cases h; done) | (simp only [Yv] at hy ⊢; rw [← pv_loc h σ']; exact hy)
theorem XO_V {o : O} (h : isV o = true) (dst : Option Nat) (K : Kont) : XO P dst K F L σ o ↔ ∃ v, Yv P F L σ v o ∧ K (putO dst v F) L σ := by
  cases o <;> try (cases h; done)
  case pcall f args =>
    simp only [XO, XPCall, Yv]
    constructor
    · rintro ⟨h1, v, h2, h3⟩; exact ⟨v, ⟨h1, h2⟩, h3⟩
    · rintro ⟨v, ⟨h1, h2⟩, h3⟩; exact ⟨h1, v, h2, h3⟩
  case ex k xs =>
    have h : k.pure = true := h
    simp only [XO, XEx, h, if_true, Yv, pv]
    constructor
    · intro hx
      obtain ⟨v, hv, hk⟩ := xpv_inv hx
      exact ⟨v, hv, hk⟩
    · rintro ⟨v, hv, hk⟩
      rw [hv]; exact hk
  all_goals
    simp only [XO, Yv]
    constructor
    · intro hx
      unfold XPv at hx
      split at hx
      · rename_i v hv; exact ⟨v, hv, hx⟩
      · exact hx.elim
    · rintro ⟨v, hv, hk⟩
      rw [hv]; exact hk
def YQ (P : Program) (q : Q) (F : Fm) (L : Lm) (σ : Heap) (v : AV) : Prop := XG (gd F q.grd) (Yv P F L σ v q.o) (v = .tup [])
theorem gd_congr {F F' : Fm} {q : Q} (h : ∀ s ∈ q.looks, F s = F' s) : gd F q.grd = gd F' q.grd := by
  cases hg : q.grd with
  | none => rfl
  | some gw =>
    obtain ⟨s, want⟩ := gw
    simp only [gd]; rw [h s (by simp [Q.looks, hg])]
theorem YQ_congr {F F' : Fm} {q : Q} {v : AV} (h : ∀ s ∈ q.looks, F s = F' s) (hy : YQ P q F L σ v) : YQ P q F' L σ v := by
  have h1 : ∀ s ∈ looksO q.o, F s = F' s := fun s hs => h s (by simp [Q.looks, hs])
  unfold YQ at hy ⊢
  rw [← gd_congr h]
  cases hc : gd F q.grd with
  | none => rw [hc] at hy; exact hy.elim
  | some b => rw [hc] at hy; cases b <;> first | exact hy | exact Yv_congr h1 hy
theorem YQ_pure {q : Q} {v : AV} (h : pureO q.o = true) (L' : Lm) (σ' : Heap) (hy : YQ P q F L σ v) : YQ P q F L' σ' v := by
  unfold YQ at hy ⊢
  cases hc : gd F q.grd with
  | none => rw [hc] at hy; exact hy.elim
  | some b => rw [hc] at hy; cases b <;> first | exact hy | exact Yv_pure h L' σ' hy
theorem YQ_loc {q : Q} {v : AV} (h : locO q.o = true) (σ' : Heap) (hy : YQ P q F L σ v) : YQ P q F L σ' v := by
  unfold YQ at hy ⊢
  cases hc : gd F q.grd with
  | none => rw [hc] at hy; exact hy.elim
  | some b => rw [hc] at hy; cases b <;> first | exact hy | exact Yv_loc h σ' hy
theorem XQ_V {q : Q} (h : isV q.o = true) (K : Kont) : XQ P q K F L σ ↔ ∃ v, YQ P q F L σ v ∧ K (putO q.dst v F) L σ := by
  unfold XQ YQ
  cases hc : gd F q.grd with
  | none => exact ⟨fun hk => hk.elim, fun ⟨_, hv, _⟩ => hv.elim⟩
  | some b =>
    cases b
    · exact ⟨fun hk => ⟨_, rfl, hk⟩, fun ⟨v, hv, hk⟩ => by have hv : v = .tup [] := hv; subst hv; exact hk⟩
    · exact XO_V h q.dst K
theorem XO_mono {o : O} {dst : Option Nat} {K K' : Kont} (htm : tameO o = true) (hk : ∀ u L' σ', K (putO dst u F) L' σ' → K' (putO dst u F) L' σ') (hx : XO P dst K F L σ o) : XO P dst K' F L σ o := by
  have hF : dst = none → ∀ L' σ', K F L' σ' → K' F L' σ' := fun hd L' σ' h => by have := hk .undef L' σ'; rw [hd] at this; exact this h
  by_cases hV : isV o = true
  · rw [XO_V hV] at hx ⊢
    obtain ⟨v, h1, h2⟩ := hx
    exact ⟨v, h1, hk _ _ _ h2⟩
  · cases o <;> simp only [isV, not_true_eq_false] at hV
    case box x sh =>
      simp only [XO, XNew] at hx ⊢
      refine ⟨hx.1, ?_⟩
      have hx := hx.2
      cases dst with
      | none => exact hx.elim
      | some d =>
        cases sh with
        | true => exact fun i hi => hk (.gp i 0) _ _ (hx i hi)
        | false => cases htm
    case al z sh =>
      simp only [XO, XNew] at hx ⊢
      refine ⟨hx.1, ?_⟩
      have hx := hx.2
      cases dst with
      | none => exact hx.elim
      | some d =>
        cases sh with
        | true => exact fun i hi => hk (.gp i 0) _ _ (hx i hi)
        | false => cases htm
    case st x v n =>
      simp only [XO, XSt] at hx ⊢
      obtain ⟨h1, h2, h3, h4⟩ := hx
      refine ⟨h1, h2, h3, ?_⟩
      split at h4
      · exact hF h1 _ _ h4
      · exact h4.elim
    case msl e s b z l c =>
      obtain ⟨k, k', n, h1, h2, h3, h4, h5, h6⟩ := hx
      exact ⟨k, k', n, h1, h2, h3, h4, h5, fun i hi => hk _ _ _ (h6 i hi)⟩
    case appm e s b x y =>
      obtain ⟨n, cs, σ1, srows, h1, h2, h3, h4, h5, h6, h7⟩ := hx
      exact ⟨n, cs, σ1, srows, h1, h2, h3, fun e => hk _ _ _ (h4 e), h5, h6, fun e t ht => hk _ _ _ (h7 e t ht)⟩
    case trn x y =>
      obtain ⟨k, s, e, cs, σ1, h1, h2⟩ := hx
      exact ⟨k, s, e, cs, σ1, h1, fun t ht => hk _ _ _ (h2 t ht)⟩
    case bslm e s l z ps =>
      obtain ⟨cs, h1, h2⟩ := hx
      exact ⟨cs, h1, fun t ht => hk _ _ _ (h2 t ht)⟩
    case app e s b x y =>
      obtain ⟨rows, σ1, srows, h1, h2, h3, h4, h5, h6⟩ := hx
      exact ⟨rows, σ1, srows, h1, h2, h3, h4, h5, fun t ht => hk _ _ _ (h6 t ht)⟩
    case call f args =>
      obtain ⟨h1, R, h2, h3⟩ := hx
      exact ⟨h1, R, h2, fun v σ' hv => hk _ _ _ (h3 v σ' hv)⟩
    case callv x args =>
      obtain ⟨f, first, caps, h0, hb, h1, R, h2, h3⟩ := hx
      exact ⟨f, first, caps, h0, hb, h1, R, h2, fun v σ' hv => hk _ _ _ (h3 v σ' hv)⟩
    case ex k xs =>
      simp only [XO, XEx, hV, Bool.false_eq_true, if_false] at hx ⊢
      exact ⟨hx.1, hx.2.mono fun v σ' _ hv => hk _ _ _ hv⟩
theorem XQ_mono {q : Q} {K K' : Kont} (htm : tameO q.o = true) (hk : ∀ u L' σ', K (putO q.dst u F) L' σ' → K' (putO q.dst u F) L' σ') (hx : XQ P q K F L σ) : XQ P q K' F L σ := by
  unfold XQ at hx ⊢
  cases hc : gd F q.grd with
  | none => rw [hc] at hx; exact hx.elim
  | some b => rw [hc] at hx; cases b <;> first | exact hk _ _ _ hx | exact XO_mono htm hk hx
theorem XO_monoL {o : O} {dst : Option Nat} {K K' : Kont} (htm : quietO o = true) (hk : ∀ u σ', K (putO dst u F) L σ' → K' (putO dst u F) L σ') (hx : XO P dst K F L σ o) : XO P dst K' F L σ o := by
  by_cases hV : isV o = true
  · rw [XO_V hV] at hx ⊢
    obtain ⟨v, h1, h2⟩ := hx
    exact ⟨v, h1, hk _ _ h2⟩
  · cases o <;> simp only [isV, not_true_eq_false] at hV
    case box x sh =>
      simp only [XO, XNew] at hx ⊢
      refine ⟨hx.1, ?_⟩
      have hx := hx.2
      cases dst with
      | none => exact hx.elim
      | some d =>
        cases sh with
        | true => exact fun i hi => hk (.gp i 0) _ (hx i hi)
        | false => cases htm
    case al z sh =>
      simp only [XO, XNew] at hx ⊢
      refine ⟨hx.1, ?_⟩
      have hx := hx.2
      cases dst with
      | none => exact hx.elim
      | some d =>
        cases sh with
        | true => exact fun i hi => hk (.gp i 0) _ (hx i hi)
        | false => cases htm
    case st x v n => cases htm
    case msl e s b z l c =>
      obtain ⟨k, k', n, h1, h2, h3, h4, h5, h6⟩ := hx
      exact ⟨k, k', n, h1, h2, h3, h4, h5, fun i hi => hk _ _ (h6 i hi)⟩
    case appm e s b x y =>
      obtain ⟨n, cs, σ1, srows, h1, h2, h3, h4, h5, h6, h7⟩ := hx
      exact ⟨n, cs, σ1, srows, h1, h2, h3, fun e => hk _ _ (h4 e), h5, h6, fun e t ht => hk _ _ (h7 e t ht)⟩
    case trn x y =>
      obtain ⟨k, s, e, cs, σ1, h1, h2⟩ := hx
      exact ⟨k, s, e, cs, σ1, h1, fun t ht => hk _ _ (h2 t ht)⟩
    case bslm e s l z ps =>
      obtain ⟨cs, h1, h2⟩ := hx
      exact ⟨cs, h1, fun t ht => hk _ _ (h2 t ht)⟩
    case app e s b x y =>
      obtain ⟨rows, σ1, srows, h1, h2, h3, h4, h5, h6⟩ := hx
      exact ⟨rows, σ1, srows, h1, h2, h3, h4, h5, fun t ht => hk _ _ (h6 t ht)⟩
    case call f args =>
      obtain ⟨h1, R, h2, h3⟩ := hx
      exact ⟨h1, R, h2, fun v σ' hv => hk _ _ (h3 v σ' hv)⟩
    case callv x args =>
      obtain ⟨f, first, caps, h0, hb, h1, R, h2, h3⟩ := hx
      exact ⟨f, first, caps, h0, hb, h1, R, h2, fun v σ' hv => hk _ _ (h3 v σ' hv)⟩
    case ex k xs =>
      simp only [XO, XEx, hV, Bool.false_eq_true, if_false] at hx ⊢
      exact ⟨hx.1, hx.2.mono fun v σ' _ hv => hk _ _ hv⟩
theorem XQ_monoL {q : Q} {K K' : Kont} (htm : quietO q.o = true) (hk : ∀ u σ', K (putO q.dst u F) L σ' → K' (putO q.dst u F) L σ') (hx : XQ P q K F L σ) : XQ P q K' F L σ := by
  unfold XQ at hx ⊢
  cases hc : gd F q.grd with
  | none => rw [hc] at hx; exact hx.elim
  | some b => rw [hc] at hx; cases b <;> first | exact hk _ _ hx | exact XO_monoL htm hk hx
theorem putO_comm {d e : Option Nat} (h : ∀ k, d = some k → e ≠ some k) (u v : AV) (F : Fm) : putO d u (putO e v F) = putO e v (putO d u F) := by
  cases d with
  | none => rfl
  | some d =>
    cases e with
    | none => rfl
    | some e =>
      have hne : d ≠ e := fun he => h d rfl (he ▸ rfl)
      funext s
      simp only [putO, put]
      by_cases h1 : s = d <;> by_cases h2 : s = e <;> simp [h1, h2]
      · omega
      · intro h3; exact absurd h3 hne
      · intro h3; exact absurd h3.symm hne
theorem putO_ne {d : Option Nat} {s : Nat} (h : d ≠ some s) (v : AV) (F : Fm) : putO d v F s = F s := by
  cases d with
  | none => rfl
  | some d => simp only [putO, put]; rw [if_neg]; intro e; exact h (by rw [e])
theorem XO_put {o : O} {dst d : Option Nat} {v : AV} {K : Kont} (ht : tameO o = true) (hl : ∀ s ∈ looksO o, d ≠ some s) (hd : ∀ k, dst = some k → d ≠ some k)
    (hx : XO P dst K (putO d v F) L σ o) : XO P dst (fun F L σ => K (putO d v F) L σ) F L σ o := by
  have hc : ∀ u, putO dst u (putO d v F) = putO d v (putO dst u F) := fun u => putO_comm hd u v F
  have hF : ∀ s ∈ looksO o, putO d v F s = F s := fun s hs => putO_ne (hl s hs) v F
  by_cases hV : isV o = true
  · rw [XO_V hV] at hx ⊢
    obtain ⟨u, h1, h2⟩ := hx
    refine ⟨u, Yv_congr hF h1, ?_⟩
    show K (putO d v (putO dst u F)) L σ
    rw [← hc u]; exact h2
  · cases o <;> simp only [isV, not_true_eq_false] at hV <;> simp only [looksO, List.mem_append] at hF
    case box x sh =>
      cases sh <;> simp only [tameO] at ht
      · cases ht
      simp only [XO, XNew] at hx ⊢
      rw [← xv_congr hF]
      refine ⟨hx.1, ?_⟩
      have hx := hx.2
      cases dst with
      | none => exact hx.elim
      | some e => exact fun i hi => (by show K (putO d v (putO (some e) (.gp i 0) F)) _ _; rw [← hc (.gp i 0)]; exact hx i hi)
    case al z sh =>
      cases sh <;> simp only [tameO] at ht
      · cases ht
      simp only [XO, XNew] at hx ⊢
      refine ⟨hx.1, ?_⟩
      have hx := hx.2
      cases dst with
      | none => exact hx.elim
      | some e => exact fun i hi => (by show K (putO d v (putO (some e) (.gp i 0) F)) _ _; rw [← hc (.gp i 0)]; exact hx i hi)
    case st x y n =>
      simp only [XO, XSt] at hx ⊢
      rw [← xv_congr (fun s hs => hF s (.inl hs)), ← xv_congr (fun s hs => hF s (.inr hs))]
      obtain ⟨h1, h2, h3, h4⟩ := hx
      refine ⟨h1, h2, h3, ?_⟩
      cases he : stA L σ (xv (putO d v F) y).cells (xv (putO d v F) x) with
      | none => rw [he] at h4; exact h4.elim
      | some r => obtain ⟨L', σ'⟩ := r; rw [he] at h4; exact h4
    case appm e s b x y =>
      obtain ⟨n, cs, σ1, srows, h1, h2, h3, h4, h5, h6, h7⟩ := hx
      refine ⟨n, cs, σ1, srows, by rw [← xv_congr (fun s hs => hF s (.inl hs))]; exact h1, by rw [← xv_congr (fun s hs => hF s (.inr hs))]; exact h2, h3, fun e => ?_, h5, h6, fun e t ht => ?_⟩
      · show K (putO d v (putO dst _ F)) _ _
        rw [← hc, ← xv_congr (fun s hs => hF s (.inl hs))]; exact h4 e
      · show K (putO d v (putO dst _ F)) _ _
        rw [← hc]; exact h7 e t ht
    case trn x y =>
      obtain ⟨k, s, e, cs, σ1, h1, h2⟩ := hx
      refine ⟨k, s, e, cs, σ1, by rw [← xv_congr (fun s hs => hF s (.inl hs)), ← xv_congr (fun s hs => hF s (.inr hs))]; exact h1, fun t ht => ?_⟩
      show K (putO d v (putO dst _ F)) _ _
      rw [← hc]; exact h2 t ht
    case bslm e s l z ps =>
      obtain ⟨cs, h1, h2⟩ := hx
      refine ⟨cs, by rw [← fillA_congr _ _ hF]; exact h1, fun t ht => ?_⟩
      show K (putO d v (putO dst _ F)) _ _
      rw [← hc]; exact h2 t ht
    case msl e s b z l c =>
      obtain ⟨k, k', n, h1, h2, h3, h4, h5, h6⟩ := hx
      refine ⟨k, k', n, by rw [← xv_congr (fun s hs => hF s (.inl hs))]; exact h1, by rw [← xv_congr (fun s hs => hF s (.inr hs))]; exact h2, h3, h4, h5, fun i hi => ?_⟩
      show K (putO d v (putO dst _ F)) _ _
      rw [← hc]; exact h6 i hi
    case app e s b x y =>
      obtain ⟨rows, σ1, srows, h1, h2, h3, h4, h5, h6⟩ := hx
      refine ⟨rows, σ1, srows, by rw [← xv_congr (fun s hs => hF s (.inl hs))]; exact h1, by rw [← xv_congr (fun s hs => hF s (.inr hs))]; exact h2, h3, h4, h5, fun t ht => ?_⟩
      show K (putO d v (putO dst _ F)) _ _
      rw [← hc]; exact h6 t ht
    case call f args =>
      obtain ⟨h1, R, h2, h3⟩ := hx
      rw [xvs_congr hF] at h1 h2
      refine ⟨h1, R, h2, fun u σ' hv => ?_⟩
      show K (putO d v (putO dst _ F)) _ _
      rw [← hc]; exact h3 u σ' hv
    case callv x args =>
      obtain ⟨f, first, caps, h0, hb, h1, R, h2, h3⟩ := hx
      rw [xvs_congr (fun s hs => hF s (.inr hs))] at h1 h2
      refine ⟨f, first, caps, by rw [← xv_congr (fun s hs => hF s (.inl hs))]; exact h0, hb, h1, R, h2, fun u σ' hv => ?_⟩
      show K (putO d v (putO dst _ F)) _ _
      rw [← hc]; exact h3 u σ' hv
    case ex k xs =>
      simp only [XO, XEx, hV, Bool.false_eq_true, if_false] at hx ⊢
      rw [xvs_congr hF] at hx
      refine ⟨hx.1, hx.2.mono fun u σ' _ hv => ?_⟩
      show K (putO d v (putO dst _ F)) _ _
      rw [← hc]; exact hv
theorem XQ_put {q : Q} {d : Option Nat} {v : AV} {K : Kont} (ht : tameO q.o = true) (hl : ∀ s ∈ q.looks, d ≠ some s) (hd : ∀ k, q.dst = some k → d ≠ some k)
    (hx : XQ P q K (putO d v F) L σ) : XQ P q (fun F L σ => K (putO d v F) L σ) F L σ := by
  have h1 : ∀ s ∈ looksO q.o, d ≠ some s := fun s hs => hl s (by simp [Q.looks, hs])
  unfold XQ at hx ⊢
  rw [gd_congr (F := putO d v F) (F' := F) (fun s hs => putO_ne (hl s hs) v F)] at hx
  cases hc : gd F q.grd with
  | none => rw [hc] at hx; exact hx.elim
  | some b =>
    rw [hc] at hx
    cases b
    · have hx : K (putO q.dst (.tup []) (putO d v F)) L σ := hx
      show K (putO d v (putO q.dst (.tup []) F)) L σ
      rw [← putO_comm hd]; exact hx
    · exact XO_put ht h1 hd hx
end Go.Ab
