/- Regions that draw their order, continued: whatever order the tape picks. Conditions: none. -/
import Derived.Test.YtdbpmhfepfpldaaDoorXAb10b
set_option linter.unusedSimpArgs false
set_option linter.unusedVariables false
namespace Go.Ab
open Go.RowKit

variable {P : Program} {base N : Nat} {g g' : Gh} {Pr : Nat → Prop} {σ σ' : Heap} {w0 w w' : World} {lam : Nat → Option Nat} {F : Fm} {L : Lm} {a : Act}

/-- Whatever order is picked from here on. -/
def XAny (P : Program) (ops : Array Oper) (qs : List Q) (K : Kont) : Nat → Array Bool → Kont
  | 0, listed, F, L, σ => Region.ready .any ops listed = [] ∧ K F L σ
  | fuel + 1, listed, F, L, σ => (Region.ready .any ops listed = [] → K F L σ) ∧
    ∀ i ∈ Region.ready .any ops listed, ∃ q, qs[i]? = some q ∧ XQ P q (XAny P ops qs K fuel (listed.setIfInBounds i true)) F L σ

/-- Calls of these functions are taken for calls that leave all as it was. -/
def toP (pf : List FuncId) (q : Q) : Q :=
  match q.o with
  | .call f args => if pf.contains f then { q with o := .pcall f args } else q
  | _ => q

theorem toP_sound {pf : List FuncId} {q : Q} {K : Kont} (h : XQ P (toP pf q) K F L σ) : XQ P q K F L σ := by
  obtain ⟨dst, o, grd⟩ := q
  cases o <;> try exact h
  rename_i f args
  simp only [toP] at h
  split at h
  · unfold XQ at h ⊢
    simp only at h ⊢
    cases hc : gd F grd with
    | none => rw [hc] at h; exact h.elim
    | some b =>
      rw [hc] at h
      cases b
      · exact h
      · obtain ⟨h1, v, ⟨_, h2⟩, h3⟩ := h
        exact ⟨h1, _, h2, fun v' σ' ⟨e1, e2⟩ => by subst e1; subst e2; exact h3⟩
  · exact h

theorem compL_get {ops : Array Oper} {esc : List Nat} : ∀ (l : List Nat) (qs : List Q), compL P N esc ops l = some qs → ∀ (k i : Nat), l[k]? = some i → ∃ o q, ops[i]? = some o ∧ qs[k]? = some q ∧ compQ P N esc ops o = some q
  | [], _, _, k, i, hk => by simp at hk
  | j :: l, qs, h, k, i, hk => by
    simp only [compL, Option.bind_eq_bind, Option.bind_eq_some_iff] at h
    obtain ⟨o, ho, q, hq, qs', hqs, he⟩ := h
    cases he
    cases k with
    | zero => simp at hk; subst hk; exact ⟨o, q, ho, rfl, hq⟩
    | succ k => simpa using compL_get l qs' hqs k i (by simpa using hk)

theorem xany_sound {ops : Array Oper} {esc : List Nat} {pf : List FuncId} {qs : List Q} (hc : compL P N esc ops (List.range ops.size) = some qs) (K : Kont) {R : Exit → Act → World → Prop} :
    ∀ (fuel : Nat) (listed : Array Bool) (base : Nat) (g : Gh) (lam : Nat → Option Nat) (Pr : Nat → Prop) (F : Fm) (L : Lm) (σ : Heap) (a : Act) (w0 w : World),
      XAny P ops (qs.map (toP pf)) K fuel listed F L σ → FRel base g lam Pr N F L σ a w0 w → (∀ a' w', After base Pr N w0 g w K a' w' → R .normal a' w') → wpAny P .any ops R fuel listed a w
  | 0, listed, base, g, lam, Pr, F, L, σ, a, w0, w, hx, h, hR => ⟨hx.1, hR _ _ ⟨g, lam, F, L, σ, Gh.le_refl g, KP.refl Pr w, h, hx.2⟩⟩
  | fuel + 1, listed, base, g, lam, Pr, F, L, σ, a, w0, w, hx, h, hR => by
    refine ⟨fun he => hR _ _ ⟨g, lam, F, L, σ, Gh.le_refl g, KP.refl Pr w, h, hx.1 he⟩, fun i hi => ?_⟩
    obtain ⟨q', hq', hxq⟩ := hx.2 i hi
    have hlt : i < ops.size := by
      have := (List.mem_filter.1 hi).1
      simpa using this
    obtain ⟨o, q, ho, hq, hcq⟩ := compL_get (List.range ops.size) qs hc i i (by simp [hlt])
    rw [List.getElem?_map, hq] at hq'
    cases hq'
    refine wpOp_mono ?_ (xq_sound ho hcq (toP_sound hxq) h)
    rintro a' w' ⟨g', lam', F', L', σ', h1, h2, h3, h4⟩
    exact xany_sound hc K fuel _ base g' lam' Pr F' L' σ' a' w0 w' h4 h3 (fun a2 w2 hA => hR _ _ (After.trans h1 h2 hA))

/-! ### Who waits for whom -/

inductive Anc (ops : Array Oper) : Nat → Nat → Prop
  | one {j : Nat} {o : Oper} {e : Edge} (ho : ops[j]? = some o) (he : e ∈ o.after) (hb : Region.binds .any e = true) : Anc ops j e.on
  | step {j i : Nat} {o : Oper} {e : Edge} (ho : ops[j]? = some o) (he : e ∈ o.after) (hb : Region.binds .any e = true) (h : Anc ops e.on i) : Anc ops j i

def maskOf (acc : Array Nat) (l : List Edge) : Nat := l.foldl (fun s e => if Region.binds .any e then s ||| 2 ^ e.on ||| acc.getD e.on 0 else s) 0

def ancTab : List Oper → Array Nat → Array Nat
  | [], acc => acc
  | o :: l, acc => ancTab l (acc.push (maskOf acc o.after.toList))

def Closed (ops : Array Oper) (listed : Array Bool) : Prop :=
  ∀ j o, ops[j]? = some o → listed.getD j false = true → ∀ e ∈ o.after, Region.binds .any e = true → listed.getD e.on false = true

theorem anc_listed {ops : Array Oper} {listed : Array Bool} (hc : Closed ops listed) {j i : Nat} (h : Anc ops j i) : (∀ o, ops[j]? = some o → ∀ e ∈ o.after, Region.binds .any e = true → listed.getD e.on false = true) → listed.getD i false = true := by
  induction h with
  | one ho he hb => exact fun hj => hj _ ho _ he hb
  | step ho he hb _ ih => exact fun hj => ih fun o' ho' e' he' hb' => hc _ o' ho' (hj _ ho _ he hb) e' he' hb'

theorem mask_sound {ops : Array Oper} {acc : Array Nat} (hacc : ∀ k i, (acc.getD k 0).testBit i = true → Anc ops k i) {j : Nat} {o : Oper} (ho : ops[j]? = some o) :
    ∀ (l : List Edge) (s : Nat), (∀ e ∈ l, e ∈ o.after) → (∀ i, s.testBit i = true → Anc ops j i) →
      ∀ i, (l.foldl (fun s e => if Region.binds .any e then s ||| 2 ^ e.on ||| acc.getD e.on 0 else s) s).testBit i = true → Anc ops j i
  | [], s, _, hs, i, hi => hs i hi
  | e :: l, s, hl, hs, i, hi => by
    simp only [List.foldl_cons] at hi
    refine mask_sound hacc ho l _ (fun e he => hl e (by simp [he])) ?_ i hi
    intro i' hi'
    by_cases hb : Region.binds .any e = true
    · simp only [hb, if_true, Nat.testBit_or, Bool.or_eq_true] at hi'
      rcases hi' with (h | h) | h
      · exact hs i' h
      · rw [Nat.testBit_two_pow] at h
        have : e.on = i' := by simpa using h
        exact this ▸ .one ho (hl e (by simp)) hb
      · exact .step ho (hl e (by simp)) hb (hacc _ _ h)
    · simp only [hb] at hi'
      exact hs i' hi'

theorem ancTab_sound {ops : Array Oper} : ∀ (l : List Oper) (acc : Array Nat), (∀ k, l[k]? = ops[acc.size + k]?) → (∀ k i, (acc.getD k 0).testBit i = true → Anc ops k i) →
    ∀ k i, ((ancTab l acc).getD k 0).testBit i = true → Anc ops k i
  | [], acc, _, h => h
  | o :: l, acc, hl, h => by
    have ho : ops[acc.size]? = some o := by simpa using (hl 0).symm
    refine ancTab_sound l _ (fun k => ?_) (fun k i hi => ?_)
    · have := hl (k + 1)
      simp only [List.getElem?_cons_succ] at this
      rw [this, Array.size_push]; congr 1; omega
    · by_cases e : k = acc.size
      · subst e
        have : (acc.push (maskOf acc o.after.toList)).getD acc.size 0 = maskOf acc o.after.toList := by simp
        rw [this] at hi
        exact mask_sound h ho o.after.toList 0 (fun e he => by simpa using he) (fun i hi => by simp at hi) i hi
      · have : (acc.push (maskOf acc o.after.toList)).getD k 0 = acc.getD k 0 := by
          simp only [Array.getD_eq_getD_getElem?, Array.getElem?_push, e, if_false]
        rw [this] at hi
        exact h k i hi

theorem tab_sound {ops : Array Oper} {j i : Nat} (h : ((ancTab ops.toList #[]).getD j 0).testBit i = true) : Anc ops j i :=
  ancTab_sound ops.toList #[] (fun k => by simp) (fun k i hi => by simp at hi) j i h

theorem mem_rdy {ops : Array Oper} {listed : Array Bool} {i : Nat} : i ∈ Region.ready .any ops listed ↔ i < ops.size ∧ listed.getD i true = false ∧ ∃ o, ops[i]? = some o ∧ ∀ e ∈ o.after, Region.binds .any e = true → listed.getD e.on false = true := by
  unfold Region.ready
  simp only [List.mem_filter, List.mem_range, Bool.and_eq_true, Bool.not_eq_true']
  constructor
  · rintro ⟨h1, h2, h3⟩
    refine ⟨h1, h2, ?_⟩
    cases ho : ops[i]? with
    | none => simp [ho] at h3
    | some o =>
      refine ⟨o, rfl, fun e he hb => ?_⟩
      simp only [ho, Option.map_some, Option.getD_some, Array.all_eq_true'] at h3
      have := h3 e he
      simpa [hb] using this
  · rintro ⟨h1, h2, o, ho, h3⟩
    refine ⟨h1, h2, ?_⟩
    simp only [ho, Option.map_some, Option.getD_some, Array.all_eq_true']
    intro e he
    by_cases hb : Region.binds .any e = true
    · simp [h3 e he hb]
    · simp [hb]

theorem getD_set_self {listed : Array Bool} {i : Nat} (h : i < listed.size) (d : Bool) : (listed.setIfInBounds i true).getD i d = true := by simp [h]
theorem getD_set_other {listed : Array Bool} {i j : Nat} (h : i ≠ j) (d : Bool) : (listed.setIfInBounds i true).getD j d = listed.getD j d := by
  simp [Array.getElem?_setIfInBounds_ne h]

theorem getD_mono {listed : Array Bool} {i j : Nat} (h : listed.getD j false = true) : (listed.setIfInBounds i true).getD j false = true := by
  by_cases e : i = j
  · subst e
    have : i < listed.size := by
      rcases Nat.lt_or_ge i listed.size with h1 | h1
      · exact h1
      · simp [h1] at h
    exact getD_set_self this false
  · rw [getD_set_other e]; exact h

theorem Closed.set {ops : Array Oper} {listed : Array Bool} (hc : Closed ops listed) {i : Nat} (hi : i ∈ Region.ready .any ops listed) : Closed ops (listed.setIfInBounds i true) := by
  intro j o ho hj e he hb
  by_cases e' : i = j
  · subst e'
    obtain ⟨_, _, o', ho', hall⟩ := mem_rdy.1 hi
    rw [ho] at ho'; cases ho'
    exact getD_mono (hall e he hb)
  · rw [getD_set_other e'] at hj
    exact getD_mono (hc j o ho hj e he hb)

theorem rdy_mono {ops : Array Oper} {listed : Array Bool} {i j : Nat} (hj : j ∈ Region.ready .any ops listed) (hne : i ≠ j) : j ∈ Region.ready .any ops (listed.setIfInBounds i true) := by
  obtain ⟨h1, h2, o, ho, h3⟩ := mem_rdy.1 hj
  exact mem_rdy.2 ⟨h1, by rw [getD_set_other hne]; exact h2, o, ho, fun e he hb => getD_mono (h3 e he hb)⟩

def apartQ (x y : Q) : Bool :=
  (match x.dst with | some d => !y.looks.contains d && y.dst != some d | none => true) && (match y.dst with | some d => !x.looks.contains d | none => true)

theorem apartQ_spec {x y : Q} (h : apartQ x y = true) : (∀ s ∈ y.looks, x.dst ≠ some s) ∧ (∀ k, y.dst = some k → x.dst ≠ some k) ∧ (∀ s ∈ x.looks, y.dst ≠ some s) := by
  unfold apartQ at h
  simp only [Bool.and_eq_true] at h
  refine ⟨fun s hs he => ?_, fun k hk he => ?_, fun s hs he => ?_⟩
  · rw [he] at h; simp [hs] at h
  · rw [he, hk] at h; simp at h
  · rw [he] at h; simp [hs] at h

/-- May 'qi' be taken ahead of 'qj'? -/
def before (tab : Array Nat) (i j : Nat) (qi qj : Q) : Bool := (tab.getD j 0).testBit i || (apartQ qi qj && tameO qj.o && (isV qj.o || pureO qi.o || (locO qi.o && quietO qj.o)))

theorem xany_first {ops : Array Oper} {tab : Array Nat} (htab : ∀ j i, (tab.getD j 0).testBit i = true → Anc ops j i) {qs : List Q} {K : Kont} {i : Nat} {qi : Q} (hi : qs[i]? = some qi) (hV : isV qi.o = true) :
    ∀ (fuel : Nat) (listed : Array Bool) (F : Fm) (L : Lm) (σ : Heap) (v : AV), Closed ops listed → listed.size = ops.size →
      (∀ j qj, qs[j]? = some qj → j ≠ i → listed.getD j true = false → before tab i j qi qj = true) →
      i ∈ Region.ready .any ops listed → YQ P qi F L σ v → XAny P ops qs K fuel (listed.setIfInBounds i true) (putO qi.dst v F) L σ → XAny P ops qs K (fuel + 1) listed F L σ := by
  intro fuel
  induction fuel with
  | zero =>
    intro listed F L σ v hcl hsz hb hr hy H
    refine ⟨fun h => (by rw [h] at hr; cases hr), fun j hj => ?_⟩
    by_cases hji : i = j
    · subst hji; exact ⟨qi, hi, (XQ_V hV _).2 ⟨v, hy, H⟩⟩
    · have := rdy_mono hj hji
      rw [H.1] at this; cases this
  | succ fuel ih =>
    intro listed F L σ v hcl hsz hb hr hy H
    refine ⟨fun h => (by rw [h] at hr; cases hr), fun j hj => ?_⟩
    by_cases hji : i = j
    · subst hji; exact ⟨qi, hi, (XQ_V hV _).2 ⟨v, hy, H⟩⟩
    · obtain ⟨qj, hqj, hxj⟩ := H.2 j (rdy_mono hj hji)
      obtain ⟨hjlt, hjun, oj, hoj, hjall⟩ := mem_rdy.1 hj
      have hbj := hb j qj hqj (Ne.symm hji) hjun
      have hiun := (mem_rdy.1 hr).2.1
      have hilt := (mem_rdy.1 hr).1
      unfold before at hbj
      simp only [Bool.or_eq_true, Bool.and_eq_true] at hbj
      rcases hbj with hanc | ⟨⟨hap, htame⟩, hcls⟩
      · have h1 := anc_listed hcl (htab j i hanc) (fun o ho => by rw [hoj] at ho; cases ho; exact hjall)
        rw [Array.getD_eq_getD_getElem?, Array.getElem?_eq_getElem (by omega)] at h1 hiun
        simp at h1 hiun
        rw [h1] at hiun; cases hiun
      · obtain ⟨a1, a2, a3⟩ := apartQ_spec hap
        refine ⟨qj, hqj, ?_⟩
        have hxj' := XQ_put htame a1 a2 hxj
        have hcl' := hcl.set hj
        have hr' : i ∈ Region.ready .any ops (listed.setIfInBounds j true) := rdy_mono hr (Ne.symm hji)
        have hb' : ∀ k qk, qs[k]? = some qk → k ≠ i → (listed.setIfInBounds j true).getD k true = false → before tab i k qi qk = true := fun k qk hk hki hun => by
          by_cases e : j = k
          · subst e; rw [getD_set_self (by omega)] at hun; cases hun
          · rw [getD_set_other e] at hun; exact hb k qk hk hki hun
        have hcomm : (listed.setIfInBounds i true).setIfInBounds j true = (listed.setIfInBounds j true).setIfInBounds i true := Array.setIfInBounds_comm _ _ hji
        have hlook : ∀ u, ∀ s ∈ qi.looks, F s = putO qj.dst u F s := fun u s hs => (putO_ne (a3 s hs) u F).symm
        by_cases hVj : isV qj.o = true
        · rw [XQ_V hVj] at hxj' ⊢
          obtain ⟨u, hu, hk⟩ := hxj'
          refine ⟨u, hu, ih _ _ _ _ v hcl' (by simpa using hsz) hb' hr' (YQ_congr (hlook u) hy) ?_⟩
          rw [← hcomm]; exact hk
        · have hcls' : pureO qi.o = true ∨ (locO qi.o = true ∧ quietO qj.o = true) := by
            rcases hcls with (h1 | h1) | h1
            · exact absurd h1 hVj
            · exact .inl h1
            · exact .inr h1
          rcases hcls' with hp | hp
          case inr =>
            refine XQ_monoL hp.2 (fun u σ' hk => ?_) hxj'
            refine ih _ _ _ _ v hcl' (by simpa using hsz) hb' hr' (YQ_loc hp.1 σ' (YQ_congr (hlook u) hy)) ?_
            rw [← hcomm]; exact hk
          refine XQ_mono htame (fun u L' σ' hk => ?_) hxj'
          refine ih _ _ _ _ v hcl' (by simpa using hsz) hb' hr' (YQ_pure hp L' σ' (YQ_congr (hlook u) hy)) ?_
          rw [← hcomm]; exact hk

/-! ### A plan -/

def okFirst (tab : Array Nat) (qs : List Q) (listed : Array Bool) (i : Nat) : Bool :=
  match qs[i]? with
  | some qi => isV qi.o && (qs.zipIdx.all fun (qj, j) => j == i || listed.getD j true || before tab i j qi qj)
  | none => false

def planOk (ops : Array Oper) (tab : Array Nat) (qs : List Q) : List Nat → Array Bool → Bool
  | [], listed => (Region.ready .any ops listed).isEmpty
  | i :: rest, listed => (Region.ready .any ops listed).contains i && (okFirst tab qs listed i || (Region.ready .any ops listed == [i] && ((qs[i]?).map fun q => tameO q.o).getD false)) && planOk ops tab qs rest (listed.setIfInBounds i true)

def picks (qs : List Q) (order : List Nat) : List Q := order.filterMap (qs[·]?)

theorem xany_plan {ops : Array Oper} {tab : Array Nat} (htab : ∀ j i, (tab.getD j 0).testBit i = true → Anc ops j i) {qs : List Q} {K : Kont} (hsz : qs.length = ops.size) : ∀ (order : List Nat) (listed : Array Bool) (F : Fm) (L : Lm) (σ : Heap), planOk ops tab qs order listed = true → Closed ops listed → listed.size = ops.size →
    XOps P K (picks qs order) F L σ → XAny P ops qs K order.length listed F L σ
  | [], listed, F, L, σ, hp, _, _, hx => ⟨by simpa [planOk] using hp, hx⟩
  | i :: rest, listed, F, L, σ, hp, hcl, hls, hx => by
    simp only [planOk, Bool.and_eq_true, Bool.or_eq_true, List.contains_iff_mem] at hp
    obtain ⟨⟨hr, hok⟩, hrest⟩ := hp
    have hilt := (mem_rdy.1 hr).1
    have hqi : qs[i]? = some qs[i] := by simp
    have hpk : picks qs (i :: rest) = qs[i] :: picks qs rest := by unfold picks; rw [List.filterMap_cons, hqi]
    rw [hpk] at hx
    have hx : XQ P qs[i] (XOps P K (picks qs rest)) F L σ := hx
    have ih := fun F L σ => xany_plan htab (K := K) hsz rest (listed.setIfInBounds i true) F L σ hrest (hcl.set hr) (by simpa using hls)
    rcases hok with hok | hok
    · unfold okFirst at hok
      rw [hqi] at hok
      simp only [Bool.and_eq_true, List.all_eq_true] at hok
      obtain ⟨v, hy, hk⟩ := (XQ_V hok.1 _).1 hx
      refine xany_first htab hqi hok.1 rest.length listed F L σ v hcl hls (fun j qj hj hji hun => ?_) hr hy (ih _ _ _ hk)
      have hmem : (qj, j) ∈ qs.zipIdx := by
        rw [List.mem_zipIdx_iff_getElem?]; exact hj
      have := hok.2 (qj, j) hmem
      simp only [Bool.or_eq_true, beq_iff_eq] at this
      rcases this with (h | h) | h
      · exact absurd h hji
      · rw [hun] at h; cases h
      · exact h
    · simp only [Bool.and_eq_true, beq_iff_eq, hqi, Option.map_some, Option.getD_some] at hok
      obtain ⟨hok, htm⟩ := hok
      refine ⟨fun h => (by rw [h] at hr; cases hr), fun j hj => ?_⟩
      rw [hok] at hj
      simp only [List.mem_singleton] at hj
      subst hj
      exact ⟨_, hqi, XQ_mono htm (fun u L' σ' hk => ih _ _ _ hk) hx⟩

def compD (P : Program) (N : Nat) (esc : List Nat) (pf : List FuncId) (order : List Nat) (ops : Array Oper) : Option (List Q) := do
  let qs ← compL P N esc ops (List.range ops.size)
  if planOk ops (ancTab ops.toList #[]) (qs.map (toP pf)) order (Array.replicate ops.size false) && order.length == ops.size then some (picks (qs.map (toP pf)) order) else none

theorem compL_length {ops : Array Oper} {esc : List Nat} : ∀ (l : List Nat) (qs : List Q), compL P N esc ops l = some qs → qs.length = l.length
  | [], qs, h => by simp only [compL, Option.some.injEq] at h; subst h; rfl
  | j :: l, qs, h => by
    simp only [compL, Option.bind_eq_bind, Option.bind_eq_some_iff] at h
    obtain ⟨o, ho, q, hq, qs', hqs, he⟩ := h
    cases he
    simp [compL_length l qs' hqs]

theorem draw_sound {ops : Array Oper} {esc : List Nat} {pf : List FuncId} {order : List Nat} {qs : List Q} (hm : P.follows .mixedOrders = true) (hc : compD P N esc pf order ops = some qs) {K : Kont} (hx : XOps P K qs F L σ)
    (h : FRel base g lam Pr N F L σ a w0 w) {id : Nat} : (Code.region id ops true).wp P (fun e a' w' => e = .normal ∧ After base Pr N w0 g w K a' w') a w := by
  simp only [compD, Option.bind_eq_bind, Option.bind_eq_some_iff] at hc
  obtain ⟨qs0, hq0, hc⟩ := hc
  split at hc
  case isFalse => cases hc
  rename_i hp
  simp only [Bool.and_eq_true, beq_iff_eq] at hp
  cases hc
  have hlen := compL_length _ _ hq0
  have hcl : Closed ops (Array.replicate ops.size false) := by
    intro j o ho hj
    have : (Array.replicate ops.size false).getD j false = false := by
      simp only [Array.getD_eq_getD_getElem?, Array.getElem?_replicate]; split <;> rfl
    rw [this] at hj; cases hj
  have hany := xany_plan (P := P) (fun j i => tab_sound) (K := K) (qs := qs0.map (toP pf)) (by simpa using hlen) _ _ F L σ hp.1 hcl (by simp) hx
  rw [hp.2] at hany
  refine wp_region_any hm ?_
  have hdrew : FRel base g lam Pr N F L σ a w0 { w with drawn := w.drawn + 1 } :=
    h.step (w' := w.drew) (Gh.le_refl g) (fun k b hb => rfl) (h.rel.grow (w' := w.drew) (Nat.le_refl _) (fun _ _ _ => rfl) ((Below.refl base w).drew) (fun b hb => ⟨(h.rel.pr b hb).1, .inl hb⟩))
  exact xany_sound hq0 K _ _ base g lam Pr F L σ a w0 _ hany hdrew (fun a' w' hA => ⟨rfl, After.trans (Gh.le_refl g) ⟨Nat.le_refl _, fun _ _ => rfl⟩ hA⟩)

end Go.Ab
