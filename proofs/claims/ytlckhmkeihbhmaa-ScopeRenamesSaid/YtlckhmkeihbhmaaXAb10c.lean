/- Regions that draw their order, continued: whatever order the tape picks. Regions that draw their order, continued: where operations do not commute, every order is looked at. Conditions: none. -/
import Derived.Test.YtlckhmkeihbhmaaXAb10b
set_option linter.unusedSimpArgs false
namespace Go.Ab
open Go.RowKit
variable {P : Program} {base N : Nat} {g g' : Gh} {Pr : Nat → Prop} {σ σ' : Heap} {w0 w w' : World} {lam : Nat → Option Nat} {F : Fm} {L : Lm} {a : Act}
def XAny (P : Program) (ops : Array Oper) (qs : List Q) (K : Kont) : Nat → Array Bool → Kont
  | 0, listed, F, L, σ => Region.ready .any ops listed = [] ∧ K F L σ
  | fuel + 1, listed, F, L, σ => (Region.ready .any ops listed = [] → K F L σ) ∧
    ∀ i ∈ Region.ready .any ops listed, ∃ q, qs[i]? = some q ∧ XQ P q (XAny P ops qs K fuel (listed.setIfInBounds i true)) F L σ
def toP (pf : List FuncId) (q : Q) : Q :=
  match q.o with
  | .call f args => if pf.contains f then { q with o := .pcall f args } else q
  | _ => q
theorem toP_sound {pf : List FuncId} {q : Q} {K : Kont} (h : XQ P (toP pf q) K F L σ) : XQ P q K F L σ := by
  obtain ⟨dst, o, grd⟩ := q
  cases o <;> try exact h
  rename_i f args
  simp only [toP] at h
  split at h
  · unfold XQ at h ⊢
    simp only at h ⊢
    cases hc : gd F grd with
    | none => rw [hc] at h; exact h.elim
    | some b =>
      rw [hc] at h
      cases b
      · exact h
      · obtain ⟨h1, v, ⟨_, h2⟩, h3⟩ := h
        exact ⟨h1, _, h2, fun v' σ' ⟨e1, e2⟩ => by subst e1; subst e2; exact h3⟩
  · exact h
theorem compL_get {ops : Array Oper} {esc : List Nat} : ∀ (l : List Nat) (qs : List Q), compL P N esc ops l = some qs → ∀ (k i : Nat), l[k]? = some i → ∃ o q, ops[i]? = some o ∧ qs[k]? = some q ∧ compQ P N esc ops o = some q
  | [], _, _, k, i, hk => by simp at hk
  | j :: l, qs, h, k, i, hk => by
    simp only [compL, Option.bind_eq_bind, Option.bind_eq_some_iff] at h
    obtain ⟨o, ho, q, hq, qs', hqs, he⟩ := h
    cases he
    cases k with
    | zero => simp at hk; subst hk; exact ⟨o, q, ho, rfl, hq⟩
    | succ k => simpa using compL_get l qs' hqs k i (by simpa using hk)
theorem xany_sound {ops : Array Oper} {esc : List Nat} {pf : List FuncId} {qs : List Q} (hc : compL P N esc ops (List.range ops.size) = some qs) (K : Kont) {R : Exit → Act → World → Prop} :
    ∀ (fuel : Nat) (listed : Array Bool) (base : Nat) (g : Gh) (lam : Nat → Option Nat) (Pr : Nat → Prop) (F : Fm) (L : Lm) (σ : Heap) (a : Act) (w0 w : World),
      XAny P ops (qs.map (toP pf)) K fuel listed F L σ → FRel base g lam Pr N F L σ a w0 w → (∀ a' w', After base Pr N w0 g w K a' w' → R .normal a' w') → wpAny P .any ops R fuel listed a w
  | 0, listed, base, g, lam, Pr, F, L, σ, a, w0, w, hx, h, hR => ⟨hx.1, hR _ _ ⟨g, lam, F, L, σ, Gh.le_refl g, KP.refl Pr w, h, hx.2⟩⟩
  | fuel + 1, listed, base, g, lam, Pr, F, L, σ, a, w0, w, hx, h, hR => by
    refine ⟨fun he => hR _ _ ⟨g, lam, F, L, σ, Gh.le_refl g, KP.refl Pr w, h, hx.1 he⟩, fun i hi => ?_⟩
    obtain ⟨q', hq', hxq⟩ := hx.2 i hi
    have hlt : i < ops.size := by
      have := (List.mem_filter.1 hi).1
      simpa using this
    obtain ⟨o, q, ho, hq, hcq⟩ := compL_get (List.range ops.size) qs hc i i (by simp [hlt])
    rw [List.getElem?_map, hq] at hq'
    cases hq'
    refine wpOp_mono ?_ (xq_sound ho hcq (toP_sound hxq) h)
    rintro a' w' ⟨g', lam', F', L', σ', h1, h2, h3, h4⟩
    exact xany_sound hc K fuel _ base g' lam' Pr F' L' σ' a' w0 w' h4 h3 (fun a2 w2 hA => hR _ _ (After.trans h1 h2 hA))
inductive Anc (ops : Array Oper) : Nat → Nat → Prop
  | one {j : Nat} {o : Oper} {e : Edge} (ho : ops[j]? = some o) (he : e ∈ o.after) (hb : Region.binds .any e = true) : Anc ops j e.on
  | step {j i : Nat} {o : Oper} {e : Edge} (ho : ops[j]? = some o) (he : e ∈ o.after) (hb : Region.binds .any e = true) (h : Anc ops e.on i) : Anc ops j i
def maskOf (acc : Array Nat) (l : List Edge) : Nat := l.foldl (fun s e => if Region.binds .any e then s ||| 2 ^ e.on ||| acc.getD e.on 0 else s) 0
def ancTab : List Oper → Array Nat → Array Nat
  | [], acc => acc
  | o :: l, acc => ancTab l (acc.push (maskOf acc o.after.toList))
def Closed (ops : Array Oper) (listed : Array Bool) : Prop :=
  ∀ j o, ops[j]? = some o → listed.getD j false = true → ∀ e ∈ o.after, Region.binds .any e = true → listed.getD e.on false = true
theorem anc_listed {ops : Array Oper} {listed : Array Bool} (hc : Closed ops listed) {j i : Nat} (h : Anc ops j i) : (∀ o, ops[j]? = some o → ∀ e ∈ o.after, Region.binds .any e = true → listed.getD e.on false = true) → listed.getD i false = true := by
  induction h with
  | one ho he hb => exact fun hj => hj _ ho _ he hb
  | step ho he hb _ ih => exact fun hj => ih fun o' ho' e' he' hb' => hc _ o' ho' (hj _ ho _ he hb) e' he' hb'
theorem mask_sound {ops : Array Oper} {acc : Array Nat} (hacc : ∀ k i, (acc.getD k 0).testBit i = true → Anc ops k i) {j : Nat} {o : Oper} (ho : ops[j]? = some o) :
    ∀ (l : List Edge) (s : Nat), (∀ e ∈ l, e ∈ o.after) → (∀ i, s.testBit i = true → Anc ops j i) →
      ∀ i, (l.foldl (fun s e => if Region.binds .any e then s ||| 2 ^ e.on ||| acc.getD e.on 0 else s) s).testBit i = true → Anc ops j i
  | [], s, _, hs, i, hi => hs i hi
  | e :: l, s, hl, hs, i, hi => by
    simp only [List.foldl_cons] at hi
    refine mask_sound hacc ho l _ (fun e he => hl e (by simp [he])) ?_ i hi
    intro i' hi'
    by_cases hb : Region.binds .any e = true
    · simp only [hb, if_true, Nat.testBit_or, Bool.or_eq_true] at hi'
      rcases hi' with (h | h) | h
      · exact hs i' h
      · rw [Nat.testBit_two_pow] at h
        have : e.on = i' := by simpa using h
        exact this ▸ .one ho (hl e (by simp)) hb
      · exact .step ho (hl e (by simp)) hb (hacc _ _ h)
    · simp only [hb] at hi'
      exact hs i' hi'
theorem ancTab_sound {ops : Array Oper} : ∀ (l : List Oper) (acc : Array Nat), (∀ k, l[k]? = ops[acc.size + k]?) → (∀ k i, (acc.getD k 0).testBit i = true → Anc ops k i) →
    ∀ k i, ((ancTab l acc).getD k 0).testBit i = true → Anc ops k i
  | [], acc, _, h => h
  | o :: l, acc, hl, h => by
    have ho : ops[acc.size]? = some o := by simpa using (hl 0).symm
    refine ancTab_sound l _ (fun k => ?_) (fun k i hi => ?_)
    · have := hl (k + 1)
      simp only [List.getElem?_cons_succ] at this
      rw [this, Array.size_push]; congr 1; omega
    · by_cases e : k = acc.size
      · subst e
        have : (acc.push (maskOf acc o.after.toList)).getD acc.size 0 = maskOf acc o.after.toList := by simp
        rw [this] at hi
        exact mask_sound h ho o.after.toList 0 (fun e he => by simpa using he) (fun i hi => by simp at hi) i hi
      · have : (acc.push (maskOf acc o.after.toList)).getD k 0 = acc.getD k 0 := by
          simp only [Array.getD_eq_getD_getElem?, Array.getElem?_push, e, if_false]
        rw [this] at hi
        exact h k i hi
theorem tab_sound {ops : Array Oper} {j i : Nat} (h : ((ancTab ops.toList #[]).getD j 0).testBit i = true) : Anc ops j i :=
  ancTab_sound ops.toList #[] (fun k => by simp) (fun k i hi => by simp at hi) j i h
theorem mem_rdy {ops : Array Oper} {listed : Array Bool} {i : Nat} : i ∈ Region.ready .any ops listed ↔ i < ops.size ∧ listed.getD i true = false ∧ ∃ o, ops[i]? = some o ∧ ∀ e ∈ o.after, Region.binds .any e = true → listed.getD e.on false = true := by
  unfold Region.ready
  simp only [List.mem_filter, List.mem_range, Bool.and_eq_true, Bool.not_eq_true']
  constructor
  · rintro ⟨h1, h2, h3⟩
    refine ⟨h1, h2, ?_⟩
    cases ho : ops[i]? with
    | none => simp [ho] at h3
    | some o =>
      refine ⟨o, rfl, fun e he hb => ?_⟩
      simp only [ho, Option.map_some, Option.getD_some, Array.all_eq_true'] at h3
      have := h3 e he
      simpa [hb] using this
  · rintro ⟨h1, h2, o, ho, h3⟩
    refine ⟨h1, h2, ?_⟩
    simp only [ho, Option.map_some, Option.getD_some, Array.all_eq_true']
    intro e he
    by_cases hb : Region.binds .any e = true
    · simp [h3 e he hb]
    · simp [hb]
theorem getD_set_self {listed : Array Bool} {i : Nat} (h : i < listed.size) (d : Bool) : (listed.setIfInBounds i true).getD i d = true := by simp [h]
theorem getD_set_other {listed : Array Bool} {i j : Nat} (h : i ≠ j) (d : Bool) : (listed.setIfInBounds i true).getD j d = listed.getD j d := by
  simp [Array.getElem?_setIfInBounds_ne h]
theorem getD_mono {listed : Array Bool} {i j : Nat} (h : listed.getD j false = true) : (listed.setIfInBounds i true).getD j false = true := by
  by_cases e : i = j
  · subst e
    have : i < listed.size := by
      rcases Nat.lt_or_ge i listed.size with h1 | h1
      · exact h1
      · simp [h1] at h
    exact getD_set_self this false
  · rw [getD_set_other e]; exact h
theorem Closed.set {ops : Array Oper} {listed : Array Bool} (hc : Closed ops listed) {i : Nat} (hi : i ∈ Region.ready .any ops listed) : Closed ops (listed.setIfInBounds i true) := by
  intro j o ho hj e he hb
  by_cases e' : i = j
  · subst e'
    obtain ⟨_, _, o', ho', hall⟩ := mem_rdy.1 hi
    rw [ho] at ho'; cases ho'
    exact getD_mono (hall e he hb)
  · rw [getD_set_other e'] at hj
    exact getD_mono (hc j o ho hj e he hb)
theorem rdy_mono {ops : Array Oper} {listed : Array Bool} {i j : Nat} (hj : j ∈ Region.ready .any ops listed) (hne : i ≠ j) : j ∈ Region.ready .any ops (listed.setIfInBounds i true) := by
  obtain ⟨h1, h2, o, ho, h3⟩ := mem_rdy.1 hj
  exact mem_rdy.2 ⟨h1, by rw [getD_set_other hne]; exact h2, o, ho, fun e he hb => getD_mono (h3 e he hb)⟩
def apartQ (x y : Q) : Bool :=
  (match x.dst with | some d => !y.looks.contains d && y.dst != some d | none => true) && (match y.dst with | some d => !x.looks.contains d | none => true)
theorem apartQ_spec {x y : Q} (h : apartQ x y = true) : (∀ s ∈ y.looks, x.dst ≠ some s) ∧ (∀ k, y.dst = some k → x.dst ≠ some k) ∧ (∀ s ∈ x.looks, y.dst ≠ some s) := by
  unfold apartQ at h
  simp only [Bool.and_eq_true] at h
  refine ⟨fun s hs he => ?_, fun k hk he => ?_, fun s hs he => ?_⟩
  · rw [he] at h; simp [hs] at h
  · rw [he, hk] at h; simp at h
  · rw [he] at h; simp [hs] at h
def before (tab : Array Nat) (i j : Nat) (qi qj : Q) : Bool := (tab.getD j 0).testBit i || (apartQ qi qj && tameO qj.o && (isV qj.o || pureO qi.o || (locO qi.o && quietO qj.o)))
theorem xany_first {ops : Array Oper} {tab : Array Nat} (htab : ∀ j i, (tab.getD j 0).testBit i = true → Anc ops j i) {qs : List Q} {K : Kont} {i : Nat} {qi : Q} (hi : qs[i]? = some qi) (hV : isV qi.o = true) :
    ∀ (fuel : Nat) (listed : Array Bool) (F : Fm) (L : Lm) (σ : Heap) (v : AV), Closed ops listed → listed.size = ops.size →
      (∀ j qj, qs[j]? = some qj → j ≠ i → listed.getD j true = false → before tab i j qi qj = true) →
      i ∈ Region.ready .any ops listed → YQ P qi F L σ v → XAny P ops qs K fuel (listed.setIfInBounds i true) (putO qi.dst v F) L σ → XAny P ops qs K (fuel + 1) listed F L σ := by
  intro fuel
  induction fuel with
  | zero =>
    intro listed F L σ v hcl hsz hb hr hy H
    refine ⟨fun h => (by rw [h] at hr; cases hr), fun j hj => ?_⟩
    by_cases hji : i = j
    · subst hji; exact ⟨qi, hi, (XQ_V hV _).2 ⟨v, hy, H⟩⟩
    · have := rdy_mono hj hji
      rw [H.1] at this; cases this
  | succ fuel ih =>
    intro listed F L σ v hcl hsz hb hr hy H
    refine ⟨fun h => (by rw [h] at hr; cases hr), fun j hj => ?_⟩
    by_cases hji : i = j
    · subst hji; exact ⟨qi, hi, (XQ_V hV _).2 ⟨v, hy, H⟩⟩
    · obtain ⟨qj, hqj, hxj⟩ := H.2 j (rdy_mono hj hji)
      obtain ⟨hjlt, hjun, oj, hoj, hjall⟩ := mem_rdy.1 hj
      have hbj := hb j qj hqj (Ne.symm hji) hjun
      have hiun := (mem_rdy.1 hr).2.1
      have hilt := (mem_rdy.1 hr).1
      unfold before at hbj
      simp only [Bool.or_eq_true, Bool.and_eq_true] at hbj
      rcases hbj with hanc | ⟨⟨hap, htame⟩, hcls⟩
      · have h1 := anc_listed hcl (htab j i hanc) (fun o ho => by rw [hoj] at ho; cases ho; exact hjall)
        rw [Array.getD_eq_getD_getElem?, Array.getElem?_eq_getElem (by omega)] at h1 hiun
        simp at h1 hiun
        rw [h1] at hiun; cases hiun
      · obtain ⟨a1, a2, a3⟩ := apartQ_spec hap
        refine ⟨qj, hqj, ?_⟩
        have hxj' := XQ_put htame a1 a2 hxj
        have hcl' := hcl.set hj
        have hr' : i ∈ Region.ready .any ops (listed.setIfInBounds j true) := rdy_mono hr (Ne.symm hji)
        have hb' : ∀ k qk, qs[k]? = some qk → k ≠ i → (listed.setIfInBounds j true).getD k true = false → before tab i k qi qk = true := fun k qk hk hki hun => by
          by_cases e : j = k
          · subst e; rw [getD_set_self (by omega)] at hun; cases hun
          · rw [getD_set_other e] at hun; exact hb k qk hk hki hun
        have hcomm : (listed.setIfInBounds i true).setIfInBounds j true = (listed.setIfInBounds j true).setIfInBounds i true := Array.setIfInBounds_comm _ _ hji
        have hlook : ∀ u, ∀ s ∈ qi.looks, F s = putO qj.dst u F s := fun u s hs => (putO_ne (a3 s hs) u F).symm
        by_cases hVj : isV qj.o = true
        · rw [XQ_V hVj] at hxj' ⊢
          obtain ⟨u, hu, hk⟩ := hxj'
          refine ⟨u, hu, ih _ _ _ _ v hcl' (by simpa using hsz) hb' hr' (YQ_congr (hlook u) hy) ?_⟩
          rw [← hcomm]; exact hk
        · have hcls' : pureO qi.o = true ∨ (locO qi.o = true ∧ quietO qj.o = true) := by
            rcases hcls with (h1 | h1) | h1
            · exact absurd h1 hVj
            · exact .inl h1
            · exact .inr h1
          rcases hcls' with hp | hp
          case inr =>
            refine XQ_monoL hp.2 (fun u σ' hk => ?_) hxj'
            refine ih _ _ _ _ v hcl' (by simpa using hsz) hb' hr' (YQ_loc hp.1 σ' (YQ_congr (hlook u) hy)) ?_
            rw [← hcomm]; exact hk
          refine XQ_mono htame (fun u L' σ' hk => ?_) hxj'
          refine ih _ _ _ _ v hcl' (by simpa using hsz) hb' hr' (YQ_pure hp L' σ' (YQ_congr (hlook u) hy)) ?_
          rw [← hcomm]; exact hk
def okFirst (tab : Array Nat) (qs : List Q) (listed : Array Bool) (i : Nat) : Bool :=
  match qs[i]? with
  | some qi => isV qi.o && (qs.zipIdx.all fun (qj, j) => j == i || listed.getD j true || before tab i j qi qj)
  | none => false
def planOk (ops : Array Oper) (tab : Array Nat) (qs : List Q) : List Nat → Array Bool → Bool
  | [], listed => (Region.ready .any ops listed).isEmpty
  | i :: rest, listed => (Region.ready .any ops listed).contains i && (okFirst tab qs listed i || (Region.ready .any ops listed == [i] && ((qs[i]?).map fun q => tameO q.o).getD false)) && planOk ops tab qs rest (listed.setIfInBounds i true)
def picks (qs : List Q) (order : List Nat) : List Q := order.filterMap (qs[·]?)
theorem xany_plan {ops : Array Oper} {tab : Array Nat} (htab : ∀ j i, (tab.getD j 0).testBit i = true → Anc ops j i) {qs : List Q} {K : Kont} (hsz : qs.length = ops.size) : ∀ (order : List Nat) (listed : Array Bool) (F : Fm) (L : Lm) (σ : Heap), planOk ops tab qs order listed = true → Closed ops listed → listed.size = ops.size →
    XOps P K (picks qs order) F L σ → XAny P ops qs K order.length listed F L σ
  | [], listed, F, L, σ, hp, _, _, hx => ⟨by simpa [planOk] using hp, hx⟩
  | i :: rest, listed, F, L, σ, hp, hcl, hls, hx => by
    simp only [planOk, Bool.and_eq_true, Bool.or_eq_true, List.contains_iff_mem] at hp
    obtain ⟨⟨hr, hok⟩, hrest⟩ := hp
    have hilt := (mem_rdy.1 hr).1
    have hqi : qs[i]? = some qs[i] := by simp
    have hpk : picks qs (i :: rest) = qs[i] :: picks qs rest := by unfold picks; rw [List.filterMap_cons, hqi]
    rw [hpk] at hx
    have hx : XQ P qs[i] (XOps P K (picks qs rest)) F L σ := hx
    have ih := fun F L σ => xany_plan htab (K := K) hsz rest (listed.setIfInBounds i true) F L σ hrest (hcl.set hr) (by simpa using hls)
    rcases hok with hok | hok
    · unfold okFirst at hok
      rw [hqi] at hok
      simp only [Bool.and_eq_true, List.all_eq_true] at hok
      obtain ⟨v, hy, hk⟩ := (XQ_V hok.1 _).1 hx
      refine xany_first htab hqi hok.1 rest.length listed F L σ v hcl hls (fun j qj hj hji hun => ?_) hr hy (ih _ _ _ hk)
      have hmem : (qj, j) ∈ qs.zipIdx := by
        rw [List.mem_zipIdx_iff_getElem?]; exact hj
      have := hok.2 (qj, j) hmem
      simp only [Bool.or_eq_true, beq_iff_eq] at this
      rcases this with (h | h) | h
      · exact absurd h hji
      · rw [hun] at h; cases h
      · exact h
    · simp only [Bool.and_eq_true, beq_iff_eq, hqi, Option.map_some, Option.getD_some] at hok
      obtain ⟨hok, htm⟩ := hok
      refine ⟨fun h => (by rw [h] at hr; cases hr), fun j hj => ?_⟩
      rw [hok] at hj
      simp only [List.mem_singleton] at hj
      subst hj
      exact ⟨_, hqi, XQ_mono htm (fun u L' σ' hk => ih _ _ _ hk) hx⟩
def compD (P : Program) (N : Nat) (esc : List Nat) (pf : List FuncId) (order : List Nat) (ops : Array Oper) : Option (List Q) := do
  let qs ← compL P N esc ops (List.range ops.size)
  if planOk ops (ancTab ops.toList #[]) (qs.map (toP pf)) order (Array.replicate ops.size false) && order.length == ops.size then some (picks (qs.map (toP pf)) order) else none
theorem compL_length {ops : Array Oper} {esc : List Nat} : ∀ (l : List Nat) (qs : List Q), compL P N esc ops l = some qs → qs.length = l.length
  | [], qs, h => by simp only [compL, Option.some.injEq] at h; subst h; rfl
  | j :: l, qs, h => by
    simp only [compL, Option.bind_eq_bind, Option.bind_eq_some_iff] at h
    obtain ⟨o, ho, q, hq, qs', hqs, he⟩ := h
    cases he
    simp [compL_length l qs' hqs]
theorem draw_sound {ops : Array Oper} {esc : List Nat} {pf : List FuncId} {order : List Nat} {qs : List Q} (hm : P.follows .mixedOrders = true) (hc : compD P N esc pf order ops = some qs) {K : Kont} (hx : XOps P K qs F L σ)
    (h : FRel base g lam Pr N F L σ a w0 w) {id : Nat} : (Code.region id ops true).wp P (fun e a' w' => e = .normal ∧ After base Pr N w0 g w K a' w') a w := by
  simp only [compD, Option.bind_eq_bind, Option.bind_eq_some_iff] at hc
  obtain ⟨qs0, hq0, hc⟩ := hc
  split at hc
  case isFalse => cases hc
  rename_i hp
  simp only [Bool.and_eq_true, beq_iff_eq] at hp
  cases hc
  have hlen := compL_length _ _ hq0
  have hcl : Closed ops (Array.replicate ops.size false) := by
    intro j o ho hj
    have : (Array.replicate ops.size false).getD j false = false := by
      simp only [Array.getD_eq_getD_getElem?, Array.getElem?_replicate]; split <;> rfl
    rw [this] at hj; cases hj
  have hany := xany_plan (P := P) (fun j i => tab_sound) (K := K) (qs := qs0.map (toP pf)) (by simpa using hlen) _ _ F L σ hp.1 hcl (by simp) hx
  rw [hp.2] at hany
  refine wp_region_any hm ?_
  have hdrew : FRel base g lam Pr N F L σ a w0 { w with drawn := w.drawn + 1 } :=
    h.step (w' := w.drew) (Gh.le_refl g) (fun k b hb => rfl) (h.rel.grow (w' := w.drew) (Nat.le_refl _) (fun _ _ _ => rfl) ((Below.refl base w).drew) (fun b hb => ⟨(h.rel.pr b hb).1, .inl hb⟩))
  exact xany_sound hq0 K _ _ base g lam Pr F L σ a w0 _ hany hdrew (fun a' w' hA => ⟨rfl, After.trans (Gh.le_refl g) ⟨Nat.le_refl _, fun _ _ => rfl⟩ hA⟩)
end Go.Ab

namespace Go.Ab
open Go.RowKit
variable {P : Program} {base N : Nat} {g g' : Gh} {Pr : Nat → Prop} {σ σ' : Heap} {w0 w w' : World} {lam : Nat → Option Nat} {F : Fm} {L : Lm} {a : Act} {K : Kont}
theorem XO_all {o : O} {dst : Option Nat} {K' : Kont} (hk : ∀ F L σ, K F L σ → K' F L σ) (hx : XO P dst K F L σ o) : XO P dst K' F L σ o := by
  by_cases hV : isV o = true
  · rw [XO_V hV] at hx ⊢
    obtain ⟨v, h1, h2⟩ := hx
    exact ⟨v, h1, hk _ _ _ h2⟩
  · cases o <;> simp only [isV, not_true_eq_false] at hV
    case box x sh =>
      simp only [XO, XNew] at hx ⊢
      refine ⟨hx.1, ?_⟩
      have hx := hx.2
      cases dst with
      | none => exact hx.elim
      | some d => cases sh with
        | true => exact fun i hi => hk _ _ _ (hx i hi)
        | false => exact hk _ _ _ hx
    case al z sh =>
      simp only [XO, XNew] at hx ⊢
      refine ⟨hx.1, ?_⟩
      have hx := hx.2
      cases dst with
      | none => exact hx.elim
      | some d => cases sh with
        | true => exact fun i hi => hk _ _ _ (hx i hi)
        | false => exact hk _ _ _ hx
    case st x v n =>
      simp only [XO, XSt] at hx ⊢
      obtain ⟨h1, h2, h3, h4⟩ := hx
      refine ⟨h1, h2, h3, ?_⟩
      split at h4
      · exact hk _ _ _ h4
      · exact h4.elim
    case msl e s b z l c =>
      obtain ⟨k, k', n, h1, h2, h3, h4, h5, h6⟩ := hx
      exact ⟨k, k', n, h1, h2, h3, h4, h5, fun i hi => hk _ _ _ (h6 i hi)⟩
    case appm e s b x y =>
      obtain ⟨n, cs, σ1, srows, h1, h2, h3, h4, h5, h6, h7⟩ := hx
      exact ⟨n, cs, σ1, srows, h1, h2, h3, fun e => hk _ _ _ (h4 e), h5, h6, fun e t ht => hk _ _ _ (h7 e t ht)⟩
    case trn x y =>
      obtain ⟨k, s, e, cs, σ1, h1, h2⟩ := hx
      exact ⟨k, s, e, cs, σ1, h1, fun t ht => hk _ _ _ (h2 t ht)⟩
    case bslm e s l z ps =>
      obtain ⟨cs, h1, h2⟩ := hx
      exact ⟨cs, h1, fun t ht => hk _ _ _ (h2 t ht)⟩
    case app e s b x y =>
      obtain ⟨rows, σ1, srows, h1, h2, h3, h4, h5, h6⟩ := hx
      exact ⟨rows, σ1, srows, h1, h2, h3, h4, h5, fun t ht => hk _ _ _ (h6 t ht)⟩
    case call f args =>
      obtain ⟨h1, R, h2, h3⟩ := hx
      exact ⟨h1, R, h2, fun v σ' hv => hk _ _ _ (h3 v σ' hv)⟩
    case callv x args =>
      obtain ⟨f, first, caps, h0, hb, h1, R, h2, h3⟩ := hx
      exact ⟨f, first, caps, h0, hb, h1, R, h2, fun v σ' hv => hk _ _ _ (h3 v σ' hv)⟩
    case ex k xs =>
      simp only [XO, XEx, hV, Bool.false_eq_true, if_false] at hx ⊢
      exact ⟨hx.1, hx.2.mono fun v σ' _ hv => hk _ _ _ hv⟩
theorem XQ_all {q : Q} {K' : Kont} (hk : ∀ F L σ, K F L σ → K' F L σ) (hx : XQ P q K F L σ) : XQ P q K' F L σ := by
  unfold XQ at hx ⊢
  cases hc : gd F q.grd with
  | none => rw [hc] at hx; exact hx.elim
  | some b =>
    rw [hc] at hx
    cases b
    · exact hk _ _ _ hx
    · exact XO_all hk hx
inductive PT where
  | done
  | one (i : Nat) (t : PT)
  | alt (i : Nat) (t r : PT)
  | lay (i : Nat) (t : PT)
inductive QT where
  | done
  | one (q : Q) (t : QT)
  | alt (q : Q) (t r : QT)
def XT (P : Program) (K : Kont) : Bool → QT → Kont
  | false, .done => K
  | true, .done => fun _ _ _ => True
  | _, .one q t => XQ P q (XT P K false t)
  | _, .alt q t r => fun F L σ => XQ P q (XT P K false t) F L σ ∧ XT P K true r F L σ
def PT.depth : PT → Nat
  | .done => 0
  | .one _ t => t.depth + 1
  | .alt _ t r => max (t.depth + 1) r.depth
  | .lay _ t => t.depth + 1
def pickT (qs : List Q) : PT → Option QT
  | .done => some .done
  | .one i t => (qs[i]?).bind fun q => (pickT qs t).map (.one q ·)
  | .alt i t r => (qs[i]?).bind fun q => (pickT qs t).bind fun t' => (pickT qs r).map (.alt q t' ·)
  | .lay i t => (qs[i]?).bind fun q => (pickT qs t).map (.one q ·)
def planT (ops : Array Oper) (tab : Array Nat) (qs : List Q) : PT → Array Bool → Option (List Nat) → Bool
  | .done, listed, none => (Region.ready .any ops listed).isEmpty
  | .done, listed, some l => (Region.ready .any ops listed).all (l.contains ·)
  | .one i t, listed, none => (Region.ready .any ops listed).contains i && (Region.ready .any ops listed == [i] || okFirst tab qs listed i) && planT ops tab qs t (listed.setIfInBounds i true) none
  | .one i t, listed, some l => (Region.ready .any ops listed).contains i && (Region.ready .any ops listed).all (fun j => j == i || l.contains j) && planT ops tab qs t (listed.setIfInBounds i true) none
  | .alt i t r, listed, e => (Region.ready .any ops listed).contains i && planT ops tab qs t (listed.setIfInBounds i true) none && planT ops tab qs r listed (some (i :: e.getD []))
  | .lay _ _, _, _ => false
theorem xt_main {ops : Array Oper} {tab : Array Nat} (htab : ∀ j i, (tab.getD j 0).testBit i = true → Anc ops j i) {qs : List Q} : ∀ (t : PT) (qt : QT), pickT qs t = some qt →
    (∀ n listed F L σ, t.depth ≤ n → planT ops tab qs t listed none = true → Closed ops listed → listed.size = ops.size → XT P K false qt F L σ → XAny P ops qs K n listed F L σ) ∧
    (∀ n listed l F L σ, t.depth ≤ n + 1 → planT ops tab qs t listed (some l) = true → Closed ops listed → listed.size = ops.size → XT P K true qt F L σ →
      ∀ j ∈ Region.ready .any ops listed, j ∉ l → ∃ q, qs[j]? = some q ∧ XQ P q (XAny P ops qs K n (listed.setIfInBounds j true)) F L σ)
  | .done, qt, hp => by
    simp only [pickT, Option.some.injEq] at hp; subst hp
    refine ⟨fun n listed F L σ _ hp _ _ hx => ?_, fun n listed l F L σ _ hp _ _ _ j hj hjl => ?_⟩
    · simp only [planT, List.isEmpty_iff] at hp
      cases n with
      | zero => exact ⟨hp, hx⟩
      | succ n => exact ⟨fun _ => hx, fun i hi => by rw [hp] at hi; cases hi⟩
    · simp only [planT, List.all_eq_true, List.contains_iff_mem] at hp
      exact absurd (hp j hj) hjl
  | .one i t, qt, hp => by
    simp only [pickT, Option.bind_eq_some_iff, Option.map_eq_some_iff] at hp
    obtain ⟨q, hq, t', ht', rfl⟩ := hp
    obtain ⟨ih, _⟩ := xt_main htab t t' ht'
    refine ⟨fun n listed F L σ hd hp hcl hsz hx => ?_, fun n listed l F L σ hd hp hcl hsz hx j hj hjl => ?_⟩
    · simp only [PT.depth] at hd
      obtain ⟨m, rfl⟩ : ∃ m, n = m + 1 := ⟨n - 1, by omega⟩
      simp only [planT, Bool.and_eq_true, Bool.or_eq_true, List.contains_iff_mem, beq_iff_eq] at hp
      obtain ⟨⟨hr, hok⟩, hrest⟩ := hp
      have hx : XQ P q (XT P K false t') F L σ := hx
      have ih' := fun F L σ => ih m (listed.setIfInBounds i true) F L σ (by omega) hrest (hcl.set hr) (by simpa using hsz)
      rcases hok with hok | hok
      · refine ⟨fun h => (by rw [h] at hr; cases hr), fun j hj => ?_⟩
        rw [hok] at hj
        simp only [List.mem_singleton] at hj
        subst hj
        exact ⟨_, hq, XQ_all (fun F L σ h => ih' F L σ h) hx⟩
      · unfold okFirst at hok
        rw [hq] at hok
        simp only [Bool.and_eq_true, List.all_eq_true] at hok
        obtain ⟨v, hy, hk⟩ := (XQ_V hok.1 _).1 hx
        refine xany_first htab hq hok.1 m listed F L σ v hcl hsz (fun j qj hj hji hun => ?_) hr hy (ih' _ _ _ hk)
        have hmem : (qj, j) ∈ qs.zipIdx := by
          rw [List.mem_zipIdx_iff_getElem?]; exact hj
        have := hok.2 (qj, j) hmem
        simp only [Bool.or_eq_true, beq_iff_eq] at this
        rcases this with (h | h) | h
        · exact absurd h hji
        · rw [hun] at h; cases h
        · exact h
    · simp only [PT.depth] at hd
      simp only [planT, Bool.and_eq_true, List.all_eq_true, List.contains_iff_mem, Bool.or_eq_true, beq_iff_eq] at hp
      obtain ⟨⟨hr, hall⟩, hrest⟩ := hp
      have hx : XQ P q (XT P K false t') F L σ := hx
      rcases hall j hj with rfl | h
      · exact ⟨q, hq, XQ_all (fun F L σ h => ih n _ F L σ (by omega) hrest (hcl.set hr) (by simpa using hsz) h) hx⟩
      · exact absurd h hjl
  | .alt i t r, qt, hp => by
    simp only [pickT, Option.bind_eq_some_iff, Option.map_eq_some_iff] at hp
    obtain ⟨q, hq, t', ht', r', hr', rfl⟩ := hp
    obtain ⟨ih, _⟩ := xt_main htab t t' ht'
    obtain ⟨_, ihr⟩ := xt_main htab r r' hr'
    refine ⟨fun n listed F L σ hd hp hcl hsz hx => ?_, fun n listed l F L σ hd hp hcl hsz hx j hj hjl => ?_⟩
    · simp only [PT.depth] at hd
      obtain ⟨m, rfl⟩ : ∃ m, n = m + 1 := ⟨n - 1, by omega⟩
      simp only [planT, Bool.and_eq_true, List.contains_iff_mem, Option.getD_none] at hp
      obtain ⟨⟨hr, hrest⟩, hp2⟩ := hp
      obtain ⟨hx1, hx2⟩ := hx
      refine ⟨fun h => (by rw [h] at hr; cases hr), fun j hj => ?_⟩
      by_cases hji : j = i
      · subst hji
        exact ⟨q, hq, XQ_all (fun F L σ h => ih m _ F L σ (by omega) hrest (hcl.set hr) (by simpa using hsz) h) hx1⟩
      · exact ihr m listed [i] F L σ (by omega) hp2 hcl hsz hx2 j hj (by simpa using hji)
    · simp only [PT.depth] at hd
      simp only [planT, Bool.and_eq_true, List.contains_iff_mem, Option.getD_some] at hp
      obtain ⟨⟨hr, hrest⟩, hp2⟩ := hp
      obtain ⟨hx1, hx2⟩ := hx
      by_cases hji : j = i
      · subst hji
        exact ⟨q, hq, XQ_all (fun F L σ h => ih n _ F L σ (by omega) hrest (hcl.set hr) (by simpa using hsz) h) hx1⟩
      · exact ihr n listed (i :: l) F L σ (by omega) hp2 hcl hsz hx2 j hj (by simp [hji, hjl])
  | .lay i t, qt, hp => ⟨fun n listed F L σ _ hp => by simp [planT] at hp, fun n listed l F L σ _ hp => by simp [planT] at hp⟩
def linPT : List Nat → PT
  | [] => .done
  | i :: l => .one i (linPT l)
def compT (P : Program) (N : Nat) (esc : List Nat) (pf : List FuncId) (pt : PT) (ops : Array Oper) : Option QT := do
  let qs ← compL P N esc ops (List.range ops.size)
  let qs := qs.map (toP pf)
  if planT ops (ancTab ops.toList #[]) qs pt (Array.replicate ops.size false) none && decide (pt.depth ≤ ops.size) then pickT qs pt else none
theorem drawT_sound {ops : Array Oper} {esc : List Nat} {pf : List FuncId} {pt : PT} {qt : QT} (hm : P.follows .mixedOrders = true) (hc : compT P N esc pf pt ops = some qt) (hx : XT P K false qt F L σ)
    (h : FRel base g lam Pr N F L σ a w0 w) {id : Nat} : (Code.region id ops true).wp P (fun e a' w' => e = .normal ∧ After base Pr N w0 g w K a' w') a w := by
  simp only [compT, Option.bind_eq_bind, Option.bind_eq_some_iff] at hc
  obtain ⟨qs0, hq0, hc⟩ := hc
  split at hc
  case isFalse => cases hc
  rename_i hp
  simp only [Bool.and_eq_true, decide_eq_true_eq] at hp
  have hlen := compL_length _ _ hq0
  have hcl : Closed ops (Array.replicate ops.size false) := by
    intro j o ho hj
    have : (Array.replicate ops.size false).getD j false = false := by
      simp only [Array.getD_eq_getD_getElem?, Array.getElem?_replicate]; split <;> rfl
    rw [this] at hj; cases hj
  have hany := (xt_main (P := P) (K := K) (fun j i => tab_sound) pt qt hc).1 ops.size _ F L σ hp.2 hp.1 hcl (by simp) hx
  refine wp_region_any hm ?_
  have hdrew : FRel base g lam Pr N F L σ a w0 { w with drawn := w.drawn + 1 } :=
    h.step (w' := w.drew) (Gh.le_refl g) (fun k b hb => rfl) (h.rel.grow (w' := w.drew) (Nat.le_refl _) (fun _ _ _ => rfl) ((Below.refl base w).drew) (fun b hb => ⟨(h.rel.pr b hb).1, .inl hb⟩))
  exact xany_sound hq0 K _ _ base g lam Pr F L σ a w0 _ hany hdrew (fun a' w' hA => ⟨rfl, After.trans (Gh.le_refl g) ⟨Nat.le_refl _, fun _ _ => rfl⟩ hA⟩)
end Go.Ab
