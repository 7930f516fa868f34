/- Bounds of sums of terms. Conditions: none. -/
import Derived.Test.YtdbpmhfepfpldaaDoorXGh
set_option linter.unusedSimpArgs false
set_option linter.unusedVariables false
namespace Go.Ab
open Go.Proofs

theorem MR.le {σ0 σ : Heap} {ts : Tms} {v : AV} (h : MR σ0 ts v σ) : σ0.le σ := by
  rcases h with ⟨rfl, rfl, rfl⟩ | ⟨j, hj, rfl, rfl⟩
  · exact Heap.le_refl _
  · exact le_setBlk hj

def Bnd (B : Int) (l : Tms) : Prop := ∀ x ∈ l, -B ≤ x.2 ∧ x.2 ≤ B
theorem Bnd.up {B C : Int} {l : Tms} (h : Bnd B l) (hc : B ≤ C) : Bnd C l := fun x hx => by have := h x hx; omega
theorem addT_bnd {B D u c : Int} (h1 : -D ≤ c) (h2 : c ≤ D) : ∀ {l : Tms}, Bnd B l → 0 ≤ B → Bnd (B + D) (addT l u c)
  | [], _, h0 => by
    simp only [addT]
    split
    · intro x hx; cases hx
    · intro x hx; simp only [List.mem_singleton] at hx; subst hx; simp only; omega
  | y :: l, h, h0 => by
    have hy := h y (List.mem_cons_self ..)
    have hl : Bnd B l := fun z hz => h z (List.mem_cons_of_mem _ hz)
    have hup : ∀ z ∈ l, -(B + D) ≤ z.2 ∧ z.2 ≤ B + D := fun z hz => by have := hl z hz; omega
    simp only [addT]
    split
    · intro x hx
      rcases List.mem_cons.1 hx with rfl | hx
      · omega
      · exact addT_bnd h1 h2 hl h0 x hx
    · split
      · split
        · exact hup
        · intro x hx
          rcases List.mem_cons.1 hx with rfl | hx
          · simp only; omega
          · exact hup x hx
      · split
        · intro x hx
          rcases List.mem_cons.1 hx with rfl | hx
          · omega
          · exact hup x hx
        · intro x hx
          rcases List.mem_cons.1 hx with rfl | hx
          · simp only; omega
          · rcases List.mem_cons.1 hx with rfl | hx
            · omega
            · exact hup x hx
theorem addT_len (u c : Int) : ∀ l : Tms, (addT l u c).length ≤ l.length + 1
  | [] => by simp only [addT]; split <;> simp
  | x :: l => by
    have := addT_len u c l
    simp only [addT]
    split
    · simp; omega
    · split
      · split <;> simp
        omega
      · split <;> simp
theorem addAll_len : ∀ (l acc : Tms), (addAll acc l).length ≤ acc.length + l.length
  | [], acc => by simp [addAll]
  | x :: l, acc => by
    have h1 := addAll_len l (addT acc x.1 x.2)
    have h2 := addT_len x.1 x.2 acc
    simp only [addAll, List.length_cons]; omega
theorem addAll_snoc : ∀ (l acc : Tms) (x : Int × Int), addAll acc (l ++ [x]) = addT (addAll acc l) x.1 x.2
  | [], acc, x => rfl
  | y :: l, acc, x => by simp only [List.cons_append, addAll, addAll_snoc l]
theorem addAll_bnd' {D : Int} (hd : 0 ≤ D) : ∀ {l acc : Tms} {B : Int}, Bnd B acc → 0 ≤ B → Bnd D l → Bnd (B + D * (l.length : Int)) (addAll acc l)
  | [], acc, B, h, _, _ => by simpa [addAll] using h
  | x :: l, acc, B, h, h0, hl => by
    have hx := hl x (List.mem_cons_self ..)
    have h1 := addT_bnd (u := x.1) hx.1 hx.2 h h0
    have h2 := addAll_bnd' hd h1 (by omega) (fun y hy => hl y (List.mem_cons_of_mem _ hy))
    have e : B + D + D * (l.length : Int) = B + D * ((x :: l).length : Int) := by
      simp only [List.length_cons, Int.natCast_add, Int.mul_add]; omega
    rw [e] at h2
    exact h2
theorem Bnd.pos {B : Int} {acc : Tms} (h : Bnd B acc) : Bnd (max B 0) acc := h.up (by omega)
theorem addAll_bnd {D B : Int} {l acc : Tms} (h : Bnd B acc) (hd : 0 ≤ D) (hl : Bnd D l) : Bnd (max B 0 + D * (l.length : Int)) (addAll acc l) :=
  addAll_bnd' hd h.pos (by omega) hl

theorem okTs_asc : ∀ {ts : Tms} {p : Option Int}, okTs p ts = true → Asc ts ∧ Nz ts ∧ ∀ x ∈ ts, pvOk p x.1 = true
  | [], p, _ => ⟨.nil, (fun x hx => by cases hx), fun x hx => by cases hx⟩
  | y :: l, p, h => by
    simp only [okTs, Bool.and_eq_true] at h
    obtain ⟨⟨⟨⟨h1, h2⟩, h3⟩, h4⟩, h5⟩ := h
    obtain ⟨a, b, c⟩ := okTs_asc h5
    have hlt : ∀ x ∈ l, y.1 < x.1 := fun x hx => by have := c x hx; simpa [pvOk] using this
    refine ⟨List.pairwise_cons.2 ⟨hlt, a⟩, fun x hx => ?_, fun x hx => ?_⟩
    · rcases List.mem_cons.1 hx with rfl | hx
      · simpa using h2
      · exact b x hx
    · rcases List.mem_cons.1 hx with rfl | hx
      · exact h4
      · have := hlt x hx
        cases p with
        | none => rfl
        | some q => simp only [pvOk, decide_eq_true_eq] at h4 ⊢; omega
theorem valid_asc {l : Ln} (h : validP l = true) : Asc l.ts ∧ Nz l.ts := by
  simp only [validP, Bool.and_eq_true] at h
  exact ⟨(okTs_asc h.2).1, (okTs_asc h.2).2.1⟩
theorem addAll_eq {ts : Tms} (us : Tms) (h1 : Asc ts) (h2 : Nz ts) : addAll ts us = canTs (ts ++ us) := can_eq (addAll_can us ts h1 h2)

def resA (r : Ln × Int) : AV := .tup [linA r.1, .d (.int .i64 r.2)]
def chk (n : Int) (us : Tms) : Ln × Int := if validP ⟨n, us⟩ then (⟨n, us⟩, 0) else (⟨0, []⟩, 9)
theorem wrap_id {z : Int} (h : -9223372036854775808 ≤ z) (h' : z ≤ 9223372036854775807) : IntKind.i64.wrap z = z := by
  rcases Int.lt_or_le z 0 with hz | hz
  · unfold IntKind.wrap
    simp only [IntKind.signed, IntKind.bits]
    have e : z % (2 ^ 64 : Int) = z + 2 ^ 64 := by omega
    simp only [e]
    rw [if_pos (by simp; omega)]
    omega
  · exact wrap_pos hz h'

def errR (e : Int) : Ln × Int := (⟨0, []⟩, e)
def mulT (n : Int) (x : Int × Int) : Int × Int := (x.1, x.2 * n)
def addP (l m : Ln) : Ln × Int := if validP l && validP m then chk (l.c + m.c) (canTs (l.ts ++ m.ts)) else errR 1
def subP (l m : Ln) : Ln × Int := if validP l && validP m then chk (l.c - m.c) (canTs (l.ts ++ m.ts.map (mulT (-1)))) else errR 1
def scaleP (l : Ln) (n : Int) : Ln × Int := if validP l then (if smB n then chk (l.c * n) (canTs (l.ts.map (mulT n))) else errR 9) else errR 1
def canP (l : Ln) : Ln × Int := if l.ts.all (fun x => vaB x.1) then (if decide (l.ts.length ≤ 64) && !lgB l.c then (if l.ts.all (fun x => !lgB x.2) then chk l.c (canTs l.ts) else errR 9) else errR 9) else errR 8

theorem smB_iff (n : Int) : smB n = true ↔ -1048576 ≤ n ∧ n ≤ 1048576 := by simp [smB]
theorem okTs_mem : ∀ {ts : Tms} {p : Option Int}, okTs p ts = true → ∀ x ∈ ts, -1048576 ≤ x.2 ∧ x.2 ≤ 1048576
  | [], _, _, x, hx => by cases hx
  | y :: l, p, h, x, hx => by
    simp only [okTs, Bool.and_eq_true] at h
    rcases List.mem_cons.1 hx with rfl | hx
    · exact (smB_iff _).1 h.1.1.2
    · exact okTs_mem h.2 x hx
theorem valid_facts {l : Ln} (h : validP l = true) : l.ts.length ≤ 16 ∧ (∀ x ∈ l.ts, -1048576 ≤ x.2 ∧ x.2 ≤ 1048576) ∧ -1048576 ≤ l.c ∧ l.c ≤ 1048576 := by
  simp only [validP, Bool.and_eq_true, decide_eq_true_eq] at h
  exact ⟨h.1.2, okTs_mem h.2, ((smB_iff _).1 h.1.1).1, ((smB_iff _).1 h.1.1).2⟩
theorem mul_bd {a b : Int} (h1 : -1048576 ≤ a ∧ a ≤ 1048576) (h2 : -1048576 ≤ b ∧ b ≤ 1048576) : -1099511627776 ≤ a * b ∧ a * b ≤ 1099511627776 := by
  have ha : a.natAbs ≤ 1048576 := by omega
  have hb : b.natAbs ≤ 1048576 := by omega
  have : (a * b).natAbs ≤ 1048576 * 1048576 := by rw [Int.natAbs_mul]; exact Nat.mul_le_mul ha hb
  omega
theorem scl_mul {ts : Tms} {n : Int} (h : ∀ x ∈ ts, -1048576 ≤ x.2 ∧ x.2 ≤ 1048576) (hn : -1048576 ≤ n ∧ n ≤ 1048576) : ts.map (scl n) = ts.map (mulT n) := by
  refine List.map_congr_left (fun x hx => ?_)
  have := mul_bd (h x hx) hn
  rw [scl, mulT, wrap_id (by omega) (by omega)]
theorem mul_Bd {ts : Tms} {n : Int} (hl : ts.length ≤ 500) (h : ∀ x ∈ ts, -1048576 ≤ x.2 ∧ x.2 ≤ 1048576) (hn : -1048576 ≤ n ∧ n ≤ 1048576) : ∀ x ∈ ts.map (mulT n), -2199023255552 ≤ x.2 ∧ x.2 ≤ 2199023255552 := by
  intro x hx
  obtain ⟨y, hy, rfl⟩ := List.mem_map.1 hx
  have := mul_bd (h y hy) hn
  simp only [mulT]; omega
theorem all_app {p : Int × Int → Prop} {l m : Tms} (h : ∀ x ∈ l, p x) (k : ∀ x ∈ m, p x) : ∀ x ∈ l ++ m, p x := fun x hx => by
  rcases List.mem_append.1 hx with hx | hx
  · exact h x hx
  · exact k x hx
theorem lessBd {ts : Tms} (h : ∀ x ∈ ts, -1048576 ≤ x.2 ∧ x.2 ≤ 1048576) : ∀ x ∈ ts, -2199023255552 ≤ x.2 ∧ x.2 ≤ 2199023255552 := fun x hx => by have := h x hx; omega


theorem gt64 (n : Nat) : decide ((64 : Int) < (n : Int)) = !decide (n ≤ 64) := by
  rw [Bool.eq_iff_iff]; simp; omega
theorem all_take {p : Int × Int → Bool} {ts : Tms} {i : Nat} {x : Int × Int} (h : (ts.take i).all p = true) (hx : ts[i]? = some x) (hp : p x = true) : (ts.take (i + 1)).all p = true := by
  rw [List.take_add_one, hx, List.all_append, h]; simpa using hp
theorem not_all {p : Int × Int → Bool} {ts : Tms} {i : Nat} {x : Int × Int} (hx : ts[i]? = some x) (hp : p x = false) : ts.all p = false := by
  rw [Bool.eq_false_iff]
  intro h
  rw [List.all_eq_true] at h
  rw [h x (List.mem_of_getElem? hx)] at hp; cases hp
theorem lgB_iff (n : Int) : lgB n = false ↔ -1099511627776 ≤ n ∧ n ≤ 1099511627776 := by simp [lgB]


theorem mulT_one (l : Tms) : l.map (mulT 1) = l := by
  have : mulT 1 = id := by funext x; simp [mulT]
  rw [this, List.map_id]
end Go.Ab
