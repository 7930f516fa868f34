/- Different valid forms have different texts. Conditions: none. -/
import Derived.Test.YtdbpmhfepfpldaaDoorXGg
set_option linter.unusedSimpArgs false
set_option linter.unusedVariables false
namespace Go.Ab

/-! ### Numerals -/

def valD (l : List UInt8) : Nat := l.foldl (fun a b => 10 * a + (b.toNat - 48)) 0
theorem ofNat_toNat {n : Nat} (h : n < 256) : (UInt8.ofNat n).toNat = n := by
  rw [UInt8.toNat_ofNat', Nat.mod_eq_of_lt h]
theorem valD_dec (u : Nat) : valD (Lib.decDigits u) = u := by
  induction u using Nat.strongRecOn with
  | ind u ih =>
    rw [Lib.decDigits]
    split
    · rename_i h
      simp only [valD, List.foldl_cons, List.foldl_nil]
      rw [ofNat_toNat (by omega)]; omega
    · rename_i h
      have := ih (u / 10) (by omega)
      unfold valD at this ⊢
      rw [List.foldl_append, this]
      simp only [List.foldl_cons, List.foldl_nil]
      rw [ofNat_toNat (by omega)]; omega
theorem dec_inj {u v : Nat} (h : Lib.decDigits u = Lib.decDigits v) : u = v := by
  rw [← valD_dec u, h, valD_dec]
theorem itoa_inj {u v : Int} (hu : 0 ≤ u) (hv : 0 ≤ v) (h : Lib.itoa u = Lib.itoa v) : u = v := by
  unfold Lib.itoa at h
  rw [if_neg (by omega), if_neg (by omega)] at h
  have := dec_inj h
  omega
theorem dec_digit (u : Nat) : ∀ b ∈ Lib.decDigits u, 48 ≤ b.toNat ∧ b.toNat ≤ 57 := by
  induction u using Nat.strongRecOn with
  | ind u ih =>
    intro b hb
    rw [Lib.decDigits] at hb
    split at hb
    · simp only [List.mem_singleton] at hb; subst hb
      rw [ofNat_toNat (by omega)]; omega
    · rcases List.mem_append.1 hb with hb | hb
      · exact ih (u / 10) (by omega) b hb
      · simp only [List.mem_singleton] at hb; subst hb
        rw [ofNat_toNat (by omega)]; omega
theorem itoa_digit {u : Int} (hu : 0 ≤ u) : ∀ b ∈ Lib.itoa u, 48 ≤ b.toNat ∧ b.toNat ≤ 57 := by
  unfold Lib.itoa
  rw [if_neg (by omega)]
  exact dec_digit _

/-! ### Splitting at a byte -/

theorem split_byte {s : UInt8} : ∀ {a b r t : List UInt8}, s ∉ a → s ∉ b → (r = [] ∨ ∃ r', r = s :: r') → (t = [] ∨ ∃ t', t = s :: t') → a ++ r = b ++ t → a = b ∧ r = t
  | [], [], r, t, _, _, _, _, h => ⟨rfl, h⟩
  | [], y :: b, r, t, _, hb, hr, _, h => by
    rcases hr with rfl | ⟨r', rfl⟩
    · simp at h
    · simp only [List.nil_append, List.cons_append, List.cons.injEq] at h
      exact absurd (by simp [h.1]) hb
  | x :: a, [], r, t, ha, _, _, ht, h => by
    rcases ht with rfl | ⟨t', rfl⟩
    · simp at h
    · simp only [List.nil_append, List.cons_append, List.cons.injEq] at h
      exact absurd (by simp [h.1]) ha
  | x :: a, y :: b, r, t, ha, hb, hr, ht, h => by
    simp only [List.cons_append, List.cons.injEq] at h
    have := split_byte (a := a) (b := b) (fun h => ha (by simp [h])) (fun h => hb (by simp [h])) hr ht h.2
    exact ⟨by rw [h.1, this.1], this.2⟩

/-! ### A text as a row of items -/

def sgn (f n : Bool) : List UInt8 := if n then (if f then [45] else [32, 45, 32]) else if f then [] else [32, 43, 32]
def textI : Bool → List (Bool × List UInt8) → List UInt8
  | _, [] => []
  | f, x :: r => sgn f x.1 ++ x.2 ++ textI false r
def bodyOk (b : List UInt8) : Prop := (32 : UInt8) ∉ b ∧ ∃ c r, b = c :: r ∧ c ≠ 45

theorem textI_head : ∀ l : List (Bool × List UInt8), textI false l = [] ∨ ∃ r, textI false l = 32 :: r
  | [] => .inl rfl
  | x :: l => by
    right
    unfold textI sgn
    cases x.1 <;> simp
theorem textI_inj : ∀ {a b : List (Bool × List UInt8)} {f : Bool}, (∀ x ∈ a, bodyOk x.2) → (∀ x ∈ b, bodyOk x.2) → textI f a = textI f b → a = b
  | [], [], _, _, _, _ => rfl
  | [], y :: b, f, _, hb, h => by
    obtain ⟨_, c, r, hc, _⟩ := hb y (List.mem_cons_self ..)
    simp only [textI] at h
    have := congrArg List.length h
    rw [hc] at this
    simp at this
  | x :: a, [], f, ha, _, h => by
    obtain ⟨_, c, r, hc, _⟩ := ha x (List.mem_cons_self ..)
    simp only [textI] at h
    have := congrArg List.length h
    rw [hc] at this
    simp at this
  | ⟨n, p⟩ :: a, ⟨m, q⟩ :: b, f, ha, hb, h => by
    obtain ⟨h1, c, r, hc, hc45⟩ := ha (n, p) (List.mem_cons_self ..)
    obtain ⟨k1, d, t, hd, hd45⟩ := hb (m, q) (List.mem_cons_self ..)
    simp only at h1 k1 hc hd
    have ha' : ∀ x ∈ a, bodyOk x.2 := fun x hx => ha x (List.mem_cons_of_mem _ hx)
    have hb' : ∀ x ∈ b, bodyOk x.2 := fun x hx => hb x (List.mem_cons_of_mem _ hx)
    simp only [textI] at h
    have main : n = m ∧ p ++ textI false a = q ++ textI false b := by
      cases f with
      | true =>
        cases n <;> cases m <;> simp only [sgn, if_true, if_false, Bool.false_eq_true, List.nil_append, List.cons_append, List.append_assoc, List.cons.injEq, true_and] at h
        · exact ⟨rfl, h⟩
        · rw [hc] at h
          simp only [List.cons_append, List.cons.injEq] at h
          exact absurd h.1 hc45
        · rw [hd] at h
          simp only [List.cons_append, List.cons.injEq] at h
          exact absurd h.1.symm hd45
        · exact ⟨rfl, h⟩
      | false =>
        cases n <;> cases m <;> simp only [sgn, if_true, if_false, Bool.false_eq_true, List.nil_append, List.cons_append, List.append_assoc, List.cons.injEq, true_and] at h
        · exact ⟨rfl, h⟩
        · exact absurd h.1 (by decide)
        · exact absurd h.1 (by decide)
        · exact ⟨rfl, h⟩
    obtain ⟨rfl, h2⟩ := main
    obtain ⟨rfl, h3⟩ := split_byte h1 k1 (textI_head a) (textI_head b) h2
    rw [textI_inj ha' hb' h3]

/-! ### The items of a form -/

def tItem (x : Int × Int) : Bool × List UInt8 := (decide (x.2 < 0), coefP x.2 ++ nameP x.1)
def cItem (c : Int) : Bool × List UInt8 := (decide (c < 0), Lib.itoa (absI c))
def cItems (l : Ln) : List (Bool × List UInt8) := if l.c = 0 ∧ l.ts ≠ [] then [] else [cItem l.c]
def itemsF (l : Ln) : List (Bool × List UInt8) := l.ts.map tItem ++ cItems l

theorem sign_sgn (f : Bool) (n : Int) : signP f n = sgn f (decide (n < 0)) := by
  unfold signP sgn
  by_cases h : n < 0 <;> simp [h]
theorem textI_app : ∀ (l m : List (Bool × List UInt8)) (f : Bool), textI f (l ++ m) = textI f l ++ textI (f && l.isEmpty) m
  | [], m, f => by simp [textI]
  | x :: l, m, f => by simp [textI, textI_app l]
theorem terms_text : ∀ (ts : Tms) (f : Bool), termsP f ts = textI f (ts.map tItem)
  | [], f => rfl
  | x :: l, f => by
    simp only [termsP, List.map_cons, textI, terms_text l, tItem, termP, sign_sgn, List.append_assoc]
theorem fmt_text {l : Ln} (h : validP l = true) : fmtP l = textI true (itemsF l) := by
  rw [fmtP, if_pos h, itemsF, textI_app, terms_text]
  congr 1
  unfold constPart cItems
  split
  · rfl
  · simp [textI, cItem, sign_sgn]

theorem absI_nn (n : Int) : 0 ≤ absI n := by unfold absI; split <;> omega
theorem name_ok {v : Int} (h : -1 ≤ v) : ∀ b ∈ nameP v, b ≠ 32 ∧ b ≠ 42 := by
  unfold nameP
  split
  · intro b hb
    simp only [List.mem_cons, List.not_mem_nil, or_false] at hb
    rcases hb with rfl | rfl | rfl <;> decide
  · intro b hb
    rcases List.mem_append.1 hb with hb | hb
    · simp only [List.mem_singleton] at hb; subst hb; decide
    · have := itoa_digit (by omega) b hb
      constructor
      · rintro rfl; simp at this
      · rintro rfl; simp at this
theorem digit_ne {b : UInt8} (h : 48 ≤ b.toNat ∧ b.toNat ≤ 57) : b ≠ 32 ∧ b ≠ 42 ∧ b ≠ 45 ∧ b ≠ 118 ∧ b ≠ 115 := by
  refine ⟨?_, ?_, ?_, ?_, ?_⟩ <;> (rintro rfl; simp at h)
theorem tItem_ok {x : Int × Int} (h : -1 ≤ x.1) : bodyOk (tItem x).2 := by
  simp only [tItem]
  constructor
  · intro hm
    rcases List.mem_append.1 hm with hm | hm
    · unfold coefP at hm
      split at hm
      · cases hm
      · rcases List.mem_append.1 hm with hm | hm
        · exact (digit_ne (itoa_digit (absI_nn _) _ hm)).1 rfl
        · simp at hm
    · exact (name_ok h _ hm).1 rfl
  · unfold coefP
    split
    · unfold nameP
      split
      · exact ⟨114, [101, 115], rfl, by decide⟩
      · exact ⟨118, _, rfl, by decide⟩
    · have hne := itoa_ne (absI x.2)
      have hdg := itoa_digit (absI_nn x.2)
      cases hi : Lib.itoa (absI x.2) with
      | nil => exact absurd hi hne
      | cons c r =>
        rw [hi] at hdg
        exact ⟨c, _, rfl, (digit_ne (hdg c (List.mem_cons_self ..))).2.2.1⟩
theorem cItem_ok (c : Int) : bodyOk (cItem c).2 := by
  simp only [cItem]
  have hdg := itoa_digit (absI_nn c)
  refine ⟨fun hm => (digit_ne (hdg _ hm)).1 rfl, ?_⟩
  have hne := itoa_ne (absI c)
  cases hi : Lib.itoa (absI c) with
  | nil => exact absurd hi hne
  | cons d r =>
    rw [hi] at hdg
    exact ⟨d, r, rfl, (digit_ne (hdg d (List.mem_cons_self ..))).2.2.1⟩

def kindB (x : Bool × List UInt8) : Bool := x.2.any (fun c => c == 118 || c == 115)
theorem kind_t (x : Int × Int) : kindB (tItem x) = true := by
  simp only [kindB, tItem, List.any_append, Bool.or_eq_true]
  right
  unfold nameP
  split <;> simp
theorem kind_c (c : Int) : kindB (cItem c) = false := by
  rw [Bool.eq_false_iff]
  intro h
  simp only [kindB, cItem, List.any_eq_true, Bool.or_eq_true, beq_iff_eq] at h
  obtain ⟨b, hb, h⟩ := h
  have := digit_ne (itoa_digit (absI_nn c) b hb)
  rcases h with h | h
  · exact this.2.2.2.1 h
  · exact this.2.2.2.2 h
theorem items_t (l : Ln) : (itemsF l).filter kindB = l.ts.map tItem := by
  rw [itemsF, List.filter_append]
  have h1 : (l.ts.map tItem).filter kindB = l.ts.map tItem := by
    rw [List.filter_eq_self]
    intro x hx
    obtain ⟨y, _, rfl⟩ := List.mem_map.1 hx
    exact kind_t y
  have h2 : (cItems l).filter kindB = [] := by
    unfold cItems
    split
    · rfl
    · simp [kind_c]
  rw [h1, h2, List.append_nil]
theorem name_inj {u v : Int} (hu : -1 ≤ u) (hv : -1 ≤ v) (h : nameP u = nameP v) : u = v := by
  unfold nameP at h
  split at h
  · split at h
    · omega
    · simp at h
  · split at h
    · simp at h
    · simp only [List.cons_append, List.nil_append, List.cons.injEq, true_and] at h
      exact itoa_inj (by omega) (by omega) h
theorem absI_inj {m n : Int} (h : decide (m < 0) = decide (n < 0)) (h' : absI m = absI n) : m = n := by
  unfold absI at h'
  by_cases hm : m < 0
  · have hn : n < 0 := by simpa [hm] using h
    rw [if_pos hm, if_pos hn] at h'; omega
  · have hn : ¬ n < 0 := by simpa [hm] using h
    rw [if_neg hm, if_neg hn] at h'; omega
theorem tItem_inj {x y : Int × Int} (hx : -1 ≤ x.1) (hy : -1 ≤ y.1) (h : tItem x = tItem y) : x = y := by
  simp only [tItem, Prod.mk.injEq] at h
  obtain ⟨h1, h2⟩ := h
  have n1 : ∀ {v : Int}, -1 ≤ v → (42 : UInt8) ∉ nameP v := fun hv hm => (name_ok hv _ hm).2 rfl
  have d1 : ∀ n : Int, (42 : UInt8) ∉ Lib.itoa (absI n) := fun n hm => (digit_ne (itoa_digit (absI_nn n) _ hm)).2.1 rfl
  unfold coefP at h2
  split at h2
  · rename_i a
    split at h2
    · rename_i b
      exact Prod.ext (name_inj hx hy (by simpa using h2)) (absI_inj h1 (by rw [a, b]))
    · exact absurd (by rw [List.nil_append] at h2; rw [h2]; simp) (n1 hx)
  · split at h2
    · exact absurd (by rw [List.nil_append] at h2; rw [← h2]; simp) (n1 hy)
    · simp only [List.append_assoc, List.cons_append, List.nil_append] at h2
      obtain ⟨e1, e2⟩ := split_byte (d1 x.2) (d1 y.2) (.inr ⟨_, rfl⟩) (.inr ⟨_, rfl⟩) h2
      simp only [List.cons.injEq, true_and] at e2
      exact Prod.ext (name_inj hx hy e2) (absI_inj h1 (itoa_inj (absI_nn _) (absI_nn _) e1))
theorem map_inj {ts us : Tms} (h : ∀ x ∈ ts, -1 ≤ x.1) (k : ∀ x ∈ us, -1 ≤ x.1) (e : ts.map tItem = us.map tItem) : ts = us := by
  induction ts generalizing us with
  | nil => cases us with
    | nil => rfl
    | cons y us => simp at e
  | cons x ts ih => cases us with
    | nil => simp at e
    | cons y us =>
      simp only [List.map_cons, List.cons.injEq] at e
      rw [tItem_inj (h x (List.mem_cons_self ..)) (k y (List.mem_cons_self ..)) e.1, ih (fun z hz => h z (List.mem_cons_of_mem _ hz)) (fun z hz => k z (List.mem_cons_of_mem _ hz)) e.2]

theorem fmt_inj {l m : Ln} (hl : validP l = true) (hm : validP m = true) (h : fmtP l = fmtP m) : l = m := by
  rw [fmt_text hl, fmt_text hm] at h
  have vl := fun x hx => (valid_var hl x hx).1
  have vm := fun x hx => (valid_var hm x hx).1
  have ok : ∀ {l : Ln}, (∀ x ∈ l.ts, -1 ≤ x.1) → ∀ x ∈ itemsF l, bodyOk x.2 := by
    intro l vl x hx
    rcases List.mem_append.1 hx with hx | hx
    · obtain ⟨y, hy, rfl⟩ := List.mem_map.1 hx
      exact tItem_ok (vl y hy)
    · unfold cItems at hx
      split at hx
      · cases hx
      · simp only [List.mem_singleton] at hx; subst hx; exact cItem_ok _
  have hi := textI_inj (ok vl) (ok vm) h
  have ht := congrArg (List.filter kindB) hi
  rw [items_t, items_t] at ht
  have hts := map_inj vl vm ht
  obtain ⟨c, ts⟩ := l
  obtain ⟨d, us⟩ := m
  simp only at hts
  subst hts
  simp only [itemsF] at hi
  have hc := List.append_cancel_left hi
  simp only [cItems] at hc
  have : c = d := by
    split at hc
    · rename_i a
      split at hc
      · rename_i b; rw [a.1, b.1]
      · simp at hc
    · split at hc
      · simp at hc
      · simp only [List.cons.injEq, and_true, cItem, Prod.mk.injEq] at hc
        exact absI_inj hc.1 (itoa_inj (absI_nn _) (absI_nn _) hc.2)
  rw [this]
end Go.Ab
