/- The types of package api as plain data, and how they lie in abstract values. Conditions: none. -/
import Derived.Test.YtdbpmhfepfpldaaDoorXAb13
set_option linter.unusedSimpArgs false
set_option linter.unusedVariables false
namespace Go.Ab

inductive Ty where
  | mk (kind num : Int) (args : List Ty)

def Ty.kind : Ty → Int | .mk k _ _ => k
def Ty.num : Ty → Int | .mk _ n _ => n
def Ty.args : Ty → List Ty | .mk _ _ l => l

mutual
def Ty.enc : Ty → List DV
  | .mk k n l => [.int .i64 k, .int .i64 n, .sl (Ty.encs l)]
def Ty.encs : List Ty → List (List DV)
  | [] => []
  | t :: l => Ty.enc t :: Ty.encs l
end
mutual
def Ty.size : Ty → Nat
  | .mk _ _ l => 1 + Ty.sizes l
def Ty.sizes : List Ty → Nat
  | [] => 0
  | t :: l => Ty.size t + Ty.sizes l
end

def tyA (t : Ty) : AV := .agg (t.enc.map AV.d)
def tysA (l : List Ty) : AV := .d (.sl (Ty.encs l))

theorem encs_len : ∀ l : List Ty, (Ty.encs l).length = l.length
  | [] => rfl
  | t :: l => by simp [Ty.encs, encs_len l]
theorem encs_get : ∀ (l : List Ty) (i : Nat), (Ty.encs l)[i]? = (l[i]?).map Ty.enc
  | [], i => by simp [Ty.encs]
  | t :: l, 0 => by simp [Ty.encs]
  | t :: l, i + 1 => by simp [Ty.encs, encs_get l i]
theorem encs_at {l : List Ty} {i : Nat} {k n : Int} {a : List Ty} (h : l[i]? = some (.mk k n a)) : (Ty.encs l)[i]? = some [.int .i64 k, .int .i64 n, .sl (Ty.encs a)] := by
  rw [encs_get, h]; rfl
theorem enc_len : ∀ t : Ty, t.enc.length = 3
  | .mk _ _ _ => rfl
theorem encs_append : ∀ l m : List Ty, Ty.encs (l ++ m) = Ty.encs l ++ Ty.encs m
  | [], m => rfl
  | t :: l, m => by simp [Ty.encs, encs_append l m]
theorem encs_rows : ∀ (l : List Ty), ∀ r ∈ Ty.encs l, r.length = 3
  | [], r, h => by simp [Ty.encs] at h
  | t :: l, r, h => by
    simp only [Ty.encs, List.mem_cons] at h
    rcases h with rfl | h
    · exact enc_len t
    · exact encs_rows l r h
theorem take_snoc {α : Type} {l : List α} {i : Nat} {x : α} (h : l[i]? = some x) : l.take (i + 1) = l.take i ++ [x] := by
  rw [List.take_add_one, h]; rfl
theorem sizes_snoc : ∀ (l : List Ty) (t : Ty), Ty.sizes (l ++ [t]) = Ty.sizes l + t.size
  | [], t => by simp [Ty.sizes]
  | u :: l, t => by simp only [List.cons_append, Ty.sizes, sizes_snoc l t]; omega
theorem sizes_append : ∀ (l m : List Ty), Ty.sizes (l ++ m) = Ty.sizes l + Ty.sizes m
  | [], m => by simp [Ty.sizes]
  | u :: l, m => by simp only [List.cons_append, Ty.sizes, sizes_append l m]; omega
theorem sizes_get {l : List Ty} {i : Nat} {t : Ty} (h : l[i]? = some t) : Ty.sizes (l.take i) + t.size ≤ Ty.sizes l := by
  have : l = l.take i ++ l.drop i := (List.take_append_drop i l).symm
  have hd : l.drop i = t :: l.drop (i + 1) := by
    have hlt := (List.getElem?_eq_some_iff.1 h).1
    rw [List.drop_eq_getElem_cons hlt]
    congr 1
    exact (List.getElem?_eq_some_iff.1 h).2
  conv => rhs; rw [this, sizes_append, hd]
  simp only [Ty.sizes]; omega
theorem size_pos : ∀ t : Ty, 1 ≤ t.size
  | .mk _ _ _ => by simp [Ty.size]
theorem len_sizes : ∀ l : List Ty, l.length ≤ Ty.sizes l
  | [] => by simp [Ty.sizes]
  | t :: l => by have := len_sizes l; have := size_pos t; simp only [List.length_cons, Ty.sizes]; omega
end Go.Ab
