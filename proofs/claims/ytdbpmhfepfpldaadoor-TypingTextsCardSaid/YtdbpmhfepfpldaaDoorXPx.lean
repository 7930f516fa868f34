/- The programs of package api as plain data, and how they lie in abstract values. Conditions: none. -/
import Derived.Test.YtdbpmhfepfpldaaDoorXTy
set_option linter.unusedSimpArgs false
set_option linter.unusedVariables false
namespace Go.Ab

abbrev Str := List UInt8

inductive TE where
  | mk (kind : Int) (name : Str) (args : List TE)

structure CE where
  name : Str
  args : List TE

structure DE where
  name : Str
  vars : List Str
  cons : List CE

mutual
inductive Ex where
  | mk (op : Int) (name : Str) (num : Int) (names : List Str) (kids : List Ex) (alts : List Al)
inductive Al where
  | mk (con : Str) (vars : List Str) (body : Ex)
end

structure FE where
  name : Str
  params : List Str
  body : Ex

structure Pg where
  data : List DE
  funs : List FE

def sRow (s : Str) : List DV := [.str s]
def iRow (n : Int) : List DV := [.int .i64 n]
def bRow (b : Bool) : List DV := [.bool b]
/-- Lists of strings, of ints, of bools. -/
def ssD (l : List Str) : DV := .sl (l.map sRow)
def isD (l : List Int) : DV := .sl (l.map iRow)
def bsD (l : List Bool) : DV := .sl (l.map bRow)

mutual
def TE.enc : TE → List DV
  | .mk k n l => [.int .i64 k, .str n, .sl (TE.encs l)]
def TE.encs : List TE → List (List DV)
  | [] => []
  | t :: l => TE.enc t :: TE.encs l
end
theorem TE.encs_map : ∀ l : List TE, TE.encs l = l.map TE.enc
  | [] => rfl
  | t :: l => by simp [TE.encs, TE.encs_map l]
theorem TE.enc_mk (k : Int) (n : Str) (l : List TE) : (TE.mk k n l).enc = [.int .i64 k, .str n, .sl (l.map TE.enc)] := by
  simp [TE.enc, TE.encs_map]

mutual
def Ex.enc : Ex → List DV
  | .mk o n u ns ks as => [.int .i64 o, .str n, .int .i64 u, ssD ns, .sl (Ex.encs ks), .sl (Al.encs as)]
def Ex.encs : List Ex → List (List DV)
  | [] => []
  | t :: l => Ex.enc t :: Ex.encs l
def Al.enc : Al → List DV
  | .mk c vs b => .str c :: ssD vs :: Ex.enc b
def Al.encs : List Al → List (List DV)
  | [] => []
  | t :: l => Al.enc t :: Al.encs l
end
theorem Ex.encs_map : ∀ l : List Ex, Ex.encs l = l.map Ex.enc
  | [] => rfl
  | t :: l => by simp [Ex.encs, Ex.encs_map l]
theorem Al.encs_map : ∀ l : List Al, Al.encs l = l.map Al.enc
  | [] => rfl
  | t :: l => by simp [Al.encs, Al.encs_map l]
theorem Ex.enc_mk (o : Int) (n : Str) (u : Int) (ns : List Str) (ks : List Ex) (as : List Al) : (Ex.mk o n u ns ks as).enc = [.int .i64 o, .str n, .int .i64 u, .sl (ns.map sRow), .sl (ks.map Ex.enc), .sl (as.map Al.enc)] := by
  simp [Ex.enc, Ex.encs_map, Al.encs_map, ssD]
theorem Al.enc_mk (c : Str) (vs : List Str) (o : Int) (n : Str) (u : Int) (ns : List Str) (ks : List Ex) (as : List Al) : (Al.mk c vs (.mk o n u ns ks as)).enc = [.str c, .sl (vs.map sRow), .int .i64 o, .str n, .int .i64 u, .sl (ns.map sRow), .sl (ks.map Ex.enc), .sl (as.map Al.enc)] := by
  simp [Al.enc, Ex.enc_mk, ssD]

def CE.enc (c : CE) : List DV := [.str c.name, .sl (c.args.map TE.enc)]
def DE.enc (d : DE) : List DV := [.str d.name, .sl (d.vars.map sRow), .sl (d.cons.map CE.enc)]
def FE.enc (f : FE) : List DV := .str f.name :: .sl (f.params.map sRow) :: f.body.enc
def Pg.enc (p : Pg) : List DV := [.sl (p.data.map DE.enc), .sl (p.funs.map FE.enc)]

def teA (t : TE) : AV := .agg (t.enc.map AV.d)
def exA (e : Ex) : AV := .agg (e.enc.map AV.d)
def alA (e : Al) : AV := .agg (e.enc.map AV.d)
def ceA (c : CE) : AV := .agg (c.enc.map AV.d)
def deA (c : DE) : AV := .agg (c.enc.map AV.d)
def feA (c : FE) : AV := .agg (c.enc.map AV.d)
def pgA (p : Pg) : AV := .agg (p.enc.map AV.d)
def boolA (b : Bool) : AV := .d (.bool b)
def ssA (l : List Str) : AV := .d (.sl (l.map sRow))

theorem Ty.encs_map : ∀ l : List Ty, Ty.encs l = l.map Ty.enc
  | [] => rfl
  | t :: l => by simp [Ty.encs, Ty.encs_map l]

/-- A row of a list. -/
theorem row_at {α : Type} {enc : α → List DV} {l : List α} {i : Nat} {x : α} (h : l[i]? = some x) : (l.map enc)[i]? = some (enc x) := by
  rw [List.getElem?_map, h]; rfl

theorem drop_at {α : Type} {l : List α} {i : Nat} {x : α} (h : l[i]? = some x) : l.drop i = x :: l.drop (i + 1) := by
  have hlt := (List.getElem?_eq_some_iff.1 h).1
  rw [List.drop_eq_getElem_cons hlt]; congr 1; exact (List.getElem?_eq_some_iff.1 h).2

theorem ex_at {α : Type} {l : List α} {i : Nat} (h : i < l.length) : ∃ x, l[i]? = some x := ⟨l[i], by simp [h]⟩

/-! ### Sizes -/
mutual
def TE.size : TE → Nat
  | .mk _ _ l => 1 + TE.sizes l
def TE.sizes : List TE → Nat
  | [] => 0
  | t :: l => TE.size t + TE.sizes l
end
mutual
def Ex.size : Ex → Nat
  | .mk _ _ _ _ ks as => 1 + Ex.sizes ks + Al.sizes as
def Ex.sizes : List Ex → Nat
  | [] => 0
  | t :: l => Ex.size t + Ex.sizes l
def Al.size : Al → Nat
  | .mk _ _ b => Ex.size b
def Al.sizes : List Al → Nat
  | [] => 0
  | t :: l => Al.size t + Al.sizes l
end
theorem TE.size_pos : ∀ t : TE, 1 ≤ t.size
  | .mk _ _ _ => by simp [TE.size]
theorem Ex.size_pos : ∀ t : Ex, 1 ≤ t.size
  | .mk _ _ _ _ _ _ => by simp only [Ex.size]; omega
theorem TE.mem_sz {l : List TE} {t : TE} (h : t ∈ l) : t.size ≤ TE.sizes l := by
  induction l with
  | nil => cases h
  | cons u l ih =>
    simp only [TE.sizes]
    cases h with
    | head => omega
    | tail _ h => have := ih h; omega
theorem Ex.mem_sz {l : List Ex} {t : Ex} (h : t ∈ l) : t.size ≤ Ex.sizes l := by
  induction l with
  | nil => cases h
  | cons u l ih =>
    simp only [Ex.sizes]
    cases h with
    | head => omega
    | tail _ h => have := ih h; omega
theorem Al.mem_sz {l : List Al} {t : Al} (h : t ∈ l) : t.size ≤ Al.sizes l := by
  induction l with
  | nil => cases h
  | cons u l ih =>
    simp only [Al.sizes]
    cases h with
    | head => omega
    | tail _ h => have := ih h; omega
theorem TE.len_sizes : ∀ l : List TE, l.length ≤ TE.sizes l
  | [] => by simp [TE.sizes]
  | t :: l => by have := TE.len_sizes l; have := TE.size_pos t; simp only [List.length_cons, TE.sizes]; omega
theorem Ex.len_sizes : ∀ l : List Ex, l.length ≤ Ex.sizes l
  | [] => by simp [Ex.sizes]
  | t :: l => by have := Ex.len_sizes l; have := Ex.size_pos t; simp only [List.length_cons, Ex.sizes]; omega
theorem Al.len_sizes : ∀ l : List Al, l.length ≤ Al.sizes l
  | [] => by simp [Al.sizes]
  | .mk _ _ b :: l => by have := Al.len_sizes l; have := Ex.size_pos b; simp only [List.length_cons, Al.sizes, Al.size]; omega

theorem TE.sizes_append : ∀ (l m : List TE), TE.sizes (l ++ m) = TE.sizes l + TE.sizes m
  | [], m => by simp [TE.sizes]
  | u :: l, m => by simp only [List.cons_append, TE.sizes, TE.sizes_append l m]; omega
theorem Ex.sizes_append : ∀ (l m : List Ex), Ex.sizes (l ++ m) = Ex.sizes l + Ex.sizes m
  | [], m => by simp [Ex.sizes]
  | u :: l, m => by simp only [List.cons_append, Ex.sizes, Ex.sizes_append l m]; omega
theorem Al.sizes_append : ∀ (l m : List Al), Al.sizes (l ++ m) = Al.sizes l + Al.sizes m
  | [], m => by simp [Al.sizes]
  | u :: l, m => by simp only [List.cons_append, Al.sizes, Al.sizes_append l m]; omega
end Go.Ab
