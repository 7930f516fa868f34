/- Sums of terms, in plain words. Conditions: none. -/
set_option linter.unusedSimpArgs false
set_option linter.unusedVariables false
namespace Go.Ab

abbrev Tms := List (Int × Int)

def csum (v : Int) : Tms → Int
  | [] => 0
  | x :: l => (if x.1 = v then x.2 else 0) + csum v l
theorem csum_append (v : Int) : ∀ l m : Tms, csum v (l ++ m) = csum v l + csum v m
  | [], m => by simp [csum]
  | x :: l, m => by simp only [List.cons_append, csum, csum_append v l m]; omega
theorem csum_perm {v : Int} {l m : Tms} (h : l.Perm m) : csum v l = csum v m := by
  induction h with
  | nil => rfl
  | cons x _ ih => simp only [csum, ih]
  | swap x y l => simp only [csum]; omega
  | trans _ _ h1 h2 => exact h1.trans h2
theorem csum_none {v : Int} : ∀ {l : Tms}, (∀ x ∈ l, x.1 ≠ v) → csum v l = 0
  | [], _ => rfl
  | x :: l, h => by
    have := csum_none (l := l) (fun y hy => h y (List.mem_cons_of_mem _ hy))
    have h1 := h x (List.mem_cons_self ..)
    simp only [csum, this, if_neg h1]; rfl

/-- Adds a multiple of a variable to ascending terms. -/
def addT : Tms → Int → Int → Tms
  | [], v, c => if c = 0 then [] else [(v, c)]
  | x :: l, v, c => if x.1 < v then x :: addT l v c else if x.1 = v then (if x.2 + c = 0 then l else (x.1, x.2 + c) :: l) else (if c = 0 then x :: l else (v, c) :: x :: l)

theorem csum_addT (u v c : Int) : ∀ l : Tms, csum u (addT l v c) = csum u l + (if v = u then c else 0)
  | [] => by
    simp only [addT]
    split
    · rename_i h; simp [csum, h]
    · simp [csum]
  | x :: l => by
    simp only [addT]
    split
    · simp only [csum, csum_addT u v c l]; omega
    · split
      · rename_i hv
        split
        · simp only [csum]; rw [← hv]; split <;> omega
        · simp only [csum]; rw [← hv]; split <;> omega
      · split
        · rename_i h0; simp [csum, h0]
        · simp only [csum]; omega

theorem addT_vars {l : Tms} {v c : Int} : ∀ {y : Int × Int}, y ∈ addT l v c → y.1 = v ∨ ∃ z ∈ l, z.1 = y.1 := by
  induction l with
  | nil =>
    intro y hy
    simp only [addT] at hy
    split at hy
    · cases hy
    · simp only [List.mem_singleton] at hy; subst hy; exact .inl rfl
  | cons x l ih =>
    intro y hy
    simp only [addT] at hy
    split at hy
    · rcases List.mem_cons.1 hy with rfl | hy
      · exact .inr ⟨_, List.mem_cons_self .., rfl⟩
      · rcases ih hy with h | ⟨z, hz, e⟩
        · exact .inl h
        · exact .inr ⟨z, List.mem_cons_of_mem _ hz, e⟩
    · split at hy
      · split at hy
        · exact .inr ⟨y, List.mem_cons_of_mem _ hy, rfl⟩
        · rcases List.mem_cons.1 hy with rfl | hy
          · exact .inr ⟨x, List.mem_cons_self .., rfl⟩
          · exact .inr ⟨y, List.mem_cons_of_mem _ hy, rfl⟩
      · split at hy
        · exact .inr ⟨y, hy, rfl⟩
        · rcases List.mem_cons.1 hy with rfl | hy
          · exact .inl rfl
          · exact .inr ⟨y, hy, rfl⟩

def Asc (l : Tms) : Prop := l.Pairwise (fun a b => a.1 < b.1)
def Nz (l : Tms) : Prop := ∀ x ∈ l, x.2 ≠ 0

theorem addT_asc {v c : Int} : ∀ {l : Tms}, Asc l → Asc (addT l v c)
  | [], _ => by
    simp only [addT]
    split
    · exact .nil
    · exact .cons (by simp) .nil
  | x :: l, h => by
    have hp := List.pairwise_cons.1 h
    simp only [addT]
    split
    · rename_i hx
      refine List.pairwise_cons.2 ⟨fun y hy => ?_, addT_asc hp.2⟩
      rcases addT_vars hy with e | ⟨z, hz, e⟩
      · omega
      · have := hp.1 z hz; omega
    · split
      · split
        · exact hp.2
        · exact List.pairwise_cons.2 ⟨fun y hy => hp.1 y hy, hp.2⟩
      · split
        · exact h
        · refine List.pairwise_cons.2 ⟨fun y hy => ?_, h⟩
          rcases List.mem_cons.1 hy with rfl | hy
          · simp only; omega
          · have := hp.1 y hy; simp only; omega
theorem addT_nz {v c : Int} : ∀ {l : Tms}, Nz l → Nz (addT l v c)
  | [], _ => by
    simp only [addT]
    split
    · intro x hx; cases hx
    · intro x hx; simp only [List.mem_singleton] at hx; subst hx; assumption
  | x :: l, h => by
    have h1 := h x (List.mem_cons_self ..)
    have h2 : Nz l := fun y hy => h y (List.mem_cons_of_mem _ hy)
    simp only [addT]
    split
    · intro y hy
      rcases List.mem_cons.1 hy with rfl | hy
      · exact h1
      · exact addT_nz h2 y hy
    · split
      · split
        · exact h2
        · intro y hy
          rcases List.mem_cons.1 hy with rfl | hy
          · assumption
          · exact h2 y hy
      · split
        · exact h
        · intro y hy
          rcases List.mem_cons.1 hy with rfl | hy
          · assumption
          · exact h y hy

/-- The canonical terms of a sum. -/
structure IsCan (ts us : Tms) : Prop where
  asc : Asc us
  nz : Nz us
  sum : ∀ v, csum v us = csum v ts

theorem csum_head {x : Int × Int} {l : Tms} (h : Asc (x :: l)) : csum x.1 (x :: l) = x.2 := by
  have := csum_none (v := x.1) (l := l) (fun y hy => by have := (List.pairwise_cons.1 h).1 y hy; omega)
  simp only [csum, this, if_pos]; omega
theorem csum_below {x : Int × Int} {l : Tms} {v : Int} (h : Asc (x :: l)) (hv : v < x.1) : csum v (x :: l) = 0 := by
  refine csum_none (fun y hy => ?_)
  rcases List.mem_cons.1 hy with rfl | hy
  · omega
  · have := (List.pairwise_cons.1 h).1 y hy; omega

theorem can_unique : ∀ {us vs : Tms}, Asc us → Nz us → Asc vs → Nz vs → (∀ v, csum v us = csum v vs) → us = vs
  | [], [], _, _, _, _, _ => rfl
  | [], y :: vs, _, _, h3, h4, h => by
    have := h y.1
    rw [csum_head h3] at this
    exact absurd this.symm (h4 y (List.mem_cons_self ..))
  | x :: us, [], h1, h2, _, _, h => by
    have := h x.1
    rw [csum_head h1] at this
    exact absurd this (h2 x (List.mem_cons_self ..))
  | x :: us, y :: vs, h1, h2, h3, h4, h => by
    have hxy : x.1 = y.1 := by
      rcases Int.lt_trichotomy x.1 y.1 with hlt | he | hgt
      · have := h x.1
        rw [csum_head h1, csum_below h3 hlt] at this
        exact absurd this (h2 x (List.mem_cons_self ..))
      · exact he
      · have := h y.1
        rw [csum_head h3, csum_below h1 hgt] at this
        exact absurd this.symm (h4 y (List.mem_cons_self ..))
    have hc : x.2 = y.2 := by
      have := h x.1
      rw [csum_head h1, hxy, csum_head h3] at this
      exact this
    have hx : x = y := Prod.ext hxy hc
    subst hx
    rw [can_unique (List.pairwise_cons.1 h1).2 (fun z hz => h2 z (List.mem_cons_of_mem _ hz)) (List.pairwise_cons.1 h3).2 (fun z hz => h4 z (List.mem_cons_of_mem _ hz)) (fun v => by have := h v; simp only [csum] at this; omega)]

theorem IsCan.unique {ts us vs : Tms} (h : IsCan ts us) (k : IsCan ts vs) : us = vs := can_unique h.asc h.nz k.asc k.nz (fun v => (h.sum v).trans (k.sum v).symm)

def addAll : Tms → Tms → Tms
  | acc, [] => acc
  | acc, x :: l => addAll (addT acc x.1 x.2) l
def canTs (ts : Tms) : Tms := addAll [] ts

theorem addAll_can : ∀ (ts acc : Tms), Asc acc → Nz acc → IsCan (acc ++ ts) (addAll acc ts)
  | [], acc, h1, h2 => ⟨h1, h2, fun v => by simp [addAll]⟩
  | x :: l, acc, h1, h2 => by
    have := addAll_can l (addT acc x.1 x.2) (addT_asc h1) (addT_nz h2)
    refine ⟨this.asc, this.nz, fun v => ?_⟩
    rw [addAll, this.sum, csum_append, csum_append, csum_addT]
    simp only [csum]; omega
theorem canTs_can (ts : Tms) : IsCan ts (canTs ts) := by
  have := addAll_can ts [] .nil (fun x hx => by cases hx)
  simpa [canTs] using this
theorem can_eq {ts us : Tms} (h : IsCan ts us) : us = canTs ts := h.unique (canTs_can ts)
theorem canTs_congr {ts us : Tms} (h : ∀ v, csum v ts = csum v us) : canTs ts = canTs us :=
  can_eq ⟨(canTs_can ts).asc, (canTs_can ts).nz, fun v => ((canTs_can ts).sum v).trans (h v)⟩
theorem canTs_self {ts : Tms} (h : Asc ts) (h' : Nz ts) : canTs ts = ts := (can_eq ⟨h, h', fun _ => rfl⟩).symm

/-- Numbers that are not too great. -/
def Bd (ts : Tms) : Prop := ts.length ≤ 1000 ∧ ∀ x ∈ ts, -2199023255552 ≤ x.2 ∧ x.2 ≤ 2199023255552
theorem csum_bd (v : Int) : ∀ {l : Tms}, (∀ x ∈ l, -2199023255552 ≤ x.2 ∧ x.2 ≤ 2199023255552) → -2199023255552 * (l.length : Int) ≤ csum v l ∧ csum v l ≤ 2199023255552 * (l.length : Int)
  | [], _ => by simp [csum]
  | x :: l, h => by
    have h1 := h x (List.mem_cons_self ..)
    have h2 := csum_bd v (l := l) (fun y hy => h y (List.mem_cons_of_mem _ hy))
    simp only [csum, List.length_cons]
    constructor
    · have : ((l.length + 1 : Nat) : Int) = (l.length : Int) + 1 := by omega
      rw [this]
      split <;> omega
    · have : ((l.length + 1 : Nat) : Int) = (l.length : Int) + 1 := by omega
      rw [this]
      split <;> omega
end Go.Ab
