/- From the given reading of arguments to abstract values, and from a contract over abstract values to the row. Conditions: the parameters are plain data. Typed data, taken apart. Conditions: none. -/
import Derived.ProofKit
import Derived.Test.YtlckhmkeihbhmaaXAb12
set_option linter.unusedSimpArgs false
namespace Go.Ab
open Go.RowKit Go.ChangeShapes Go.WideShapes
inductive RDs (im : Nat → Nat → Option Value) : List DV → List Value → Prop
  | nil : RDs im [] []
  | cons {x : DV} {v : Value} {xs : List DV} {vs : List Value} (h : RD im x v) (hs : RDs im xs vs) : RDs im (x :: xs) (v :: vs)
theorem RDs.length {im : Nat → Nat → Option Value} {xs : List DV} {vs : List Value} (h : RDs im xs vs) : vs.length = xs.length := by
  induction h with
  | nil => rfl
  | cons _ _ ih => simp [ih]
theorem RDs.idx {im : Nat → Nat → Option Value} {xs : List DV} {vs : List Value} (h : RDs im xs vs) : ∀ (i : Nat) (x : DV) (v : Value), xs[i]? = some x → vs[i]? = some v → RD im x v := by
  induction h with
  | nil => intro i x v hx; simp at hx
  | cons h _ ih =>
    intro i x v hx hv
    cases i with
    | zero => simp at hx hv; subst hx; subst hv; exact h
    | succ i => exact ih i x v (by simpa using hx) (by simpa using hv)
theorem RDs.append {im : Nat → Nat → Option Value} {xs ys : List DV} {vs us : List Value} (h : RDs im xs vs) (k : RDs im ys us) : RDs im (xs ++ ys) (vs ++ us) := by
  induction h with
  | nil => exact k
  | cons h _ ih => exact .cons h ih
theorem RDs.vrs {g : Gh} {xs : List DV} {vs : List Value} (h : RDs g.im xs vs) : VRs g (xs.map AV.d) vs := by
  induction h with
  | nil => exact .nil
  | cons h _ ih => exact .cons (.d h) ih
mutual
inductive DT (P : Program) : TypeId → List DV → Prop
  | bool {t : TypeId} {b : Bool} (h : P.underlying t = some .bool) : DT P t [.bool b]
  | int {t : TypeId} {k : IntKind} {n : Int} (h : P.underlying t = some (.int k)) (hn : k.has n) : DT P t [.int k n]
  | str {t : TypeId} {s : List UInt8} (h : P.underlying t = some .string) (hs : s.length ≤ maxLen) : DT P t [.str s]
  | sl {t e : TypeId} {rows : List (List DV)} (h : P.underlying t = some (.slice e)) (hm : rows.length ≤ maxLen) (hr : ∀ r ∈ rows, DT P e r) : DT P t [.sl rows]
  | struct {t : TypeId} {fs : Array Field} {ds : List DV} (h : P.underlying t = some (.struct fs)) (hf : DTs P fs.toList ds) : DT P t ds
inductive DTs (P : Program) : List Field → List DV → Prop
  | nil : DTs P [] []
  | cons {f : Field} {fs : List Field} {a b : List DV} (h : DT P f.type a) (hs : DTs P fs b) : DTs P (f :: fs) (a ++ b)
end
def fieldsOk (P : Program) (S : List TypeId) : Nat → List Field → Nat → Bool
  | off, [], n => off == n
  | off, f :: fs, n => f.offset == off && S.contains f.type && fieldsOk P S (off + P.cellsOf f.type) fs n
def plainT (P : Program) (S : List TypeId) (t : TypeId) : Bool :=
  match P.underlying t with
  | some .bool | some (.int _) | some .string => true
  | some (.slice e) => S.contains e && decide (0 < P.cellsOf e)
  | some (.struct fs) => fieldsOk P S 0 fs.toList (P.cellsOf t)
  | _ => false
theorem mapM_all {α β : Type} {f : α → Option β} : ∀ {l : List α} {r : List β}, l.mapM f = some r → ∀ x ∈ l, ∃ y, f x = some y
  | [], _, _, x, hx => by cases hx
  | a :: l, r, h, x, hx => by
    simp only [List.mapM_cons, Option.bind_eq_bind, Option.bind_eq_some_iff] at h
    obtain ⟨y, hy, ys, hys, _⟩ := h
    cases hx with
    | head => exact ⟨y, hy⟩
    | tail _ hx => exact mapM_all hys x hx
theorem choose_list {α : Type} (p : Nat → α → Prop) : ∀ n, (∀ i, i < n → ∃ r, p i r) → ∃ rows : List α, rows.length = n ∧ ∀ i r, rows[i]? = some r → p i r
  | 0, _ => ⟨[], rfl, by simp⟩
  | n + 1, h => by
    obtain ⟨rows, hl, hr⟩ := choose_list p n (fun i hi => h i (by omega))
    obtain ⟨r, hp⟩ := h n (by omega)
    refine ⟨rows ++ [r], by simp [hl], fun i r' hi => ?_⟩
    by_cases hlt : i < rows.length
    · rw [List.getElem?_append_left hlt] at hi; exact hr i r' hi
    · rw [List.getElem?_append_right (by omega)] at hi
      have : i - rows.length = 0 := by
        rcases Nat.eq_zero_or_pos (i - rows.length) with h | h
        · exact h
        · rw [List.getElem?_eq_none (by simp; omega)] at hi; cases hi
      rw [this] at hi
      simp at hi; subst hi
      have : i = n := by omega
      subst this; exact hp
def imW (w : World) : Nat → Nat → Option Value := fun b o => w.cell? ⟨b, o, none⟩
theorem cells_get {w : World} {base : Nat} {a : Addr} {n : Nat} {cs : List Value} (h : w.cells? base a n = some cs) : cs.length = n ∧ ∀ j, j < n → w.cell? (a.add j) = cs[j]? := by
  unfold World.cells? at h
  split at h
  · have : ∀ (l : List Nat) (cs : List Value), l.mapM (fun i => w.cell? (a.add i)) = some cs → cs.length = l.length ∧ ∀ (j i : Nat), l[j]? = some i → w.cell? (a.add i) = cs[j]? := by
      intro l
      induction l with
      | nil => intro cs h; simp at h; subst h; simp
      | cons x l ih =>
        intro cs h
        simp only [List.mapM_cons, Option.bind_eq_bind, Option.bind_eq_some_iff] at h
        obtain ⟨y, hy, ys, hys, he⟩ := h
        cases he
        obtain ⟨h1, h2⟩ := ih ys hys
        refine ⟨by simp [h1], fun j i hj => ?_⟩
        cases j with
        | zero => simp at hj; subst hj; simpa using hy
        | succ j => simpa using h2 j i (by simpa using hj)
    obtain ⟨h1, h2⟩ := this _ _ h
    exact ⟨by simpa using h1, fun j hj => h2 j j (by simp [hj])⟩
  · cases h
section
variable {H : Type} {enc : TypeId × Value → H} {P : Program} {w : World} {base : Nat} {spare : Nat → Bool} {held : Bool}
theorem open_fields {S : List TypeId} {fuel : Nat} {cs : List Value}
    (ih : ∀ (t : TypeId) (cs : List Value) (x : DataW H × List MemPlace), t ∈ S → DataW.trod enc P w base spare held fuel t cs = some x → ∃ ds, DT P t ds ∧ RDs (imW w) ds cs) :
    ∀ (fs : List Field) (off : Nat) (n : Nat) (xs : List (DataW H × List MemPlace)), fieldsOk P S off fs n = true → cs.length = n → off ≤ n →
      fs.mapM (fun f => DataW.trod enc P w base spare held fuel f.type ((cs.drop f.offset).take (P.cellsOf f.type))) = some xs → ∃ ds, DTs P fs ds ∧ RDs (imW w) ds (cs.drop off)
  | [], off, n, xs, hk, hl, _, _ => by
    simp only [fieldsOk, beq_iff_eq] at hk
    refine ⟨[], .nil, ?_⟩
    rw [List.drop_of_length_le (by omega)]
    exact .nil
  | f :: fs, off, n, xs, hk, hl, hle, h => by
    simp only [fieldsOk, Bool.and_eq_true, beq_iff_eq, List.contains_iff_mem] at hk
    obtain ⟨⟨h1, h2⟩, h3⟩ := hk
    simp only [List.mapM_cons, Option.bind_eq_bind, Option.bind_eq_some_iff] at h
    obtain ⟨y, hy, ys, hys, _⟩ := h
    obtain ⟨a, ha, har⟩ := ih _ _ _ h2 hy
    have hoff : ∀ (fs : List Field) (off n : Nat), fieldsOk P S off fs n = true → off ≤ n := by
      intro fs
      induction fs with
      | nil => intro off n h; simp only [fieldsOk, beq_iff_eq] at h; omega
      | cons f fs ih => intro off n h; simp only [fieldsOk, Bool.and_eq_true] at h; have := ih _ _ h.2; omega
    obtain ⟨b, hb, hbr⟩ := open_fields ih fs (off + P.cellsOf f.type) n ys h3 hl (hoff _ _ _ h3) hys
    refine ⟨a ++ b, .cons ha hb, ?_⟩
    have := har.append hbr
    rw [h1] at this
    rw [← List.drop_drop, List.take_append_drop] at this
    exact this
theorem open_dv {S : List TypeId} (hS : S.all (plainT P S) = true) : ∀ (fuel : Nat) (t : TypeId) (cs : List Value) (x : DataW H × List MemPlace), t ∈ S → DataW.trod enc P w base spare held fuel t cs = some x → ∃ ds, DT P t ds ∧ RDs (imW w) ds cs
  | 0, t, cs, x, _, h => by simp [DataW.trod] at h
  | fuel + 1, t, cs, x, ht, h => by
    have ih := open_dv hS fuel
    have hp : plainT P S t = true := List.all_eq_true.1 hS t ht
    unfold plainT at hp
    unfold DataW.trod at h
    cases hu : P.underlying t with
    | none => rw [hu] at hp; cases hp
    | some u =>
      rw [hu] at hp h
      cases u <;> simp only [Bool.false_eq_true] at hp
      case bool =>
        split at h <;> (try (cases h; done)) <;> rename_i h1 <;> cases h1
        exact ⟨[.bool _], .bool hu, .cons .bool .nil⟩
      case int k =>
        split at h <;> (try (cases h; done)) <;> rename_i h1 <;> cases h1
        split at h
        · rename_i hk
          obtain ⟨rfl, hk⟩ := hk
          simp only [Lit.wf, Bool.and_eq_true, decide_eq_true_eq] at hk
          exact ⟨[.int _ _], .int hu (by simpa [IntKind.has] using hk), .cons (.int (by simpa [IntKind.has] using hk)) .nil⟩
        · cases h
      case string =>
        split at h <;> (try (cases h; done)) <;> rename_i h1 <;> cases h1
        split at h
        · rename_i s hk
          have hk' : s.data.toList.length ≤ maxLen := by rw [Array.length_toList]; exact hk
          refine ⟨[.str s.data.toList], .str hu hk', .cons ?_ .nil⟩
          have : (⟨s.data.toList.toArray⟩ : ByteArray) = s := by cases s; simp
          have h2 := RD.str (im := imW w) (s := s.data.toList) hk'
          rwa [this] at h2
        · cases h
      case slice e =>
        simp only [Bool.and_eq_true, List.contains_iff_mem, decide_eq_true_eq] at hp
        obtain ⟨he, hpos⟩ := hp
        split at h <;> (try (cases h; done)) <;> rename_i h1 <;> cases h1
        · exact ⟨[.sl []], .sl hu (by simp) (by simp), .cons (.nil (Nat.zero_le _) (fun _ => rfl)) .nil⟩
        · rename_i a len cap
          simp only at h
          split at h
          · rename_i hc
            obtain ⟨_, hlc, hcm⟩ := hc
            simp only [Option.bind_eq_some_iff] at h
            obtain ⟨elems, hel, _⟩ := h
            have hall := mapM_all hel
            have : ∀ i, i < len → ∃ r, DT P e r ∧ ∃ cs, w.cells? base (a.add (i * P.cellsOf e)) (P.cellsOf e) = some cs ∧ RDs (imW w) r cs := by
              intro i hi
              obtain ⟨y, hy⟩ := hall i (by simp [hi])
              simp only [Option.bind_eq_some_iff] at hy
              obtain ⟨cs, hcs, hy⟩ := hy
              obtain ⟨r, h1, h2⟩ := ih _ _ _ he hy
              exact ⟨r, h1, cs, hcs, h2⟩
            obtain ⟨rows, hl, hr⟩ := choose_list _ len this
            refine ⟨[.sl rows], .sl hu (by omega) (fun r hr' => ?_), .cons ?_ .nil⟩
            · obtain ⟨i, hi, rfl⟩ := List.getElem_of_mem hr'
              exact (hr i _ (by simp [hi])).1
            · rcases Nat.eq_zero_or_pos len with h0 | h0
              · subst h0
                have : rows = [] := List.eq_nil_of_length_eq_zero hl
                subst this
                exact .nil hcm (fun h => by cases h)
              · obtain ⟨b, off, spot⟩ := a
                have hspot : spot = none := by
                  obtain ⟨_, _, cs, hcs, _⟩ := this 0 h0
                  have h2 := (cells_get hcs).2 0 hpos
                  have h3 : 0 < cs.length := by rw [(cells_get hcs).1]; exact hpos
                  rw [List.getElem?_eq_getElem h3] at h2
                  simpa [Addr.add] using World.cell?_spot h2
                subst hspot
                subst hl
                refine .sl (size := P.cellsOf e) (f := fun i j => ((imW w) b (off + i * P.cellsOf e + j)).getD Go.undef) hlc hcm (fun r hr' => ?_) (fun i j hi hj => ?_) (fun i r j x hi hj => ?_)
                · obtain ⟨i, hi, rfl⟩ := List.getElem_of_mem hr'
                  obtain ⟨_, cs, hcs, hrd⟩ := hr i rows[i] (List.getElem?_eq_getElem hi)
                  exact hrd.length.symm.trans (cells_get hcs).1
                · obtain ⟨r, hri⟩ : ∃ r, rows[i]? = some r := ⟨rows[i], by simp [hi]⟩
                  obtain ⟨_, cs, hcs, hrd⟩ := hr i r hri
                  have h2 := (cells_get hcs).2 j hj
                  have h3 : j < cs.length := by rw [(cells_get hcs).1]; exact hj
                  rw [List.getElem?_eq_getElem h3] at h2
                  have h4 : imW w b (off + i * P.cellsOf e + j) = some cs[j] := by rw [Addr.add_lit, Addr.add_lit] at h2; exact h2
                  rw [h4]; rfl
                · obtain ⟨_, cs, hcs, hrd⟩ := hr i r hi
                  have hj' : j < r.length := (List.getElem?_eq_some_iff.1 hj).1
                  have hjn : j < P.cellsOf e := by have := hrd.length; rw [(cells_get hcs).1] at this; omega
                  have h2 := (cells_get hcs).2 j hjn
                  have h3 : j < cs.length := by rw [(cells_get hcs).1]; exact hjn
                  rw [List.getElem?_eq_getElem h3] at h2
                  have h4 : imW w b (off + i * P.cellsOf e + j) = some cs[j] := by rw [Addr.add_lit, Addr.add_lit] at h2; exact h2
                  rw [h4]
                  exact hrd.idx j x cs[j] hj (by simp [h3])
          · cases h
      case struct fs =>
        simp only at h
        split at h
        · rename_i hc
          simp only [Option.map_eq_some_iff] at h
          obtain ⟨xs, hxs, _⟩ := h
          obtain ⟨ds, h1, h2⟩ := open_fields ih fs.toList 0 _ xs hp hc (Nat.zero_le _) hxs
          exact ⟨ds, .struct hu h1, by simpa using h2⟩
        · cases h
end
def argA (P : Program) (t : TypeId) (ds : List DV) : AV :=
  match P.underlying t with
  | some (.struct _) => .agg (ds.map AV.d)
  | _ => match ds with | [x] => .d x | _ => .undef
theorem argA_struct {P : Program} {t : TypeId} {fs : Array Field} (h : P.underlying t = some (.struct fs)) (ds : List DV) : argA P t ds = .agg (ds.map AV.d) := by
  unfold argA; rw [h]
theorem argA_one {P : Program} {t : TypeId} {u : TypeDesc} (h : P.underlying t = some u) (hn : ∀ fs, u ≠ .struct fs) (x : DV) : argA P t [x] = .d x := by
  unfold argA; rw [h]
  cases u <;> first | rfl | exact absurd rfl (hn _)
inductive DArgs (P : Program) : List TypeId → List AV → Prop
  | nil : DArgs P [] []
  | cons {t : TypeId} {ts : List TypeId} {ds : List DV} {avs : List AV} (h : DT P t ds) (hs : DArgs P ts avs) : DArgs P (t :: ts) (argA P t ds :: avs)
section
variable {H : Type} {enc : TypeId × Value → H} {P : Program} {w : World} {held : Bool}
theorem open_args {S : List TypeId} (hS : S.all (plainT P S) = true) {g : Gh} (hg : g.im = imW w) {b : Nat} {spare : Nat → Bool} {base : Nat} : ∀ (ts : List TypeId) (vs : List Value) (ds : List (DataW H)) (ps : List MemPlace),
    (∀ t ∈ ts, t ∈ S) → (∀ (j : Nat) t v, ts[j]? = some t → vs[j]? = some v → Value.okWide P w .any base t v) → DataW.TrodAll enc P w b spare held ts vs ds ps → ∃ avs, DArgs P ts avs ∧ VRs g avs vs
  | [], [], [], _, _, _, _ => ⟨[], .nil, .nil⟩
  | t :: ts, v :: vs, d :: ds, ps, hin, hok, h => by
    obtain ⟨p, q, ⟨fuel, hd⟩, hrest, _⟩ := h
    obtain ⟨avs, h1, h2⟩ := open_args hS hg ts vs ds q (fun t ht => hin t (by simp [ht])) (fun j t v ht hv => hok (j + 1) t v (by simpa using ht) (by simpa using hv)) hrest
    obtain ⟨dv, h3, h4⟩ := open_dv hS fuel t _ _ (hin t (by simp)) hd
    refine ⟨argA P t dv :: avs, .cons h3 h1, .cons ?_ h2⟩
    have ho := hok 0 t v rfl rfl
    rw [← hg] at h4
    cases hu : P.underlying t with
    | none => cases h3 <;> simp_all
    | some u =>
      by_cases hs : ∃ fs, u = .struct fs
      · obtain ⟨fs, rfl⟩ := hs
        rw [argA_struct hu]
        unfold Value.okWide at ho
        rw [hu] at ho
        simp only at ho
        obtain ⟨cs, rfl, _, _⟩ := ho
        have h5 := h4.vrs
        simp only [Value.cells] at h5
        have := VR.agg (g := g) (cs := dv.map AV.d) (vs := cs.toList) (by simpa using h5.length) (by simp [AV.isCell]) (fun i c v hc hv => h5.idx i c v hc hv)
        simpa using this
      · have hns : ∀ fs, u ≠ .struct fs := fun fs e => hs ⟨fs, e⟩
        have hone : ∃ x, dv = [x] := by
          cases h3 with
          | struct h _ => rw [hu] at h; cases h; exact absurd rfl (hns _)
          | _ => exact ⟨_, rfl⟩
        obtain ⟨x, rfl⟩ := hone
        rw [argA_one hu hns]
        generalize hcv : v.cells.toList = cv at h4
        cases h4 with
        | cons hx hn =>
          cases hn
          rename_i v'
          have : v = v' := by
            unfold Value.okWide at ho
            rw [hu] at ho
            cases v <;> try (simpa [Value.cells] using hcv)
            exfalso
            cases h3 with
            | bool h => rw [hu] at h; cases h; simp [Cell.okWide, hu, Cell.ok] at ho
            | int h => rw [hu] at h; cases h; simp [Cell.okWide, hu, Cell.ok] at ho
            | str h => rw [hu] at h; cases h; simp [Cell.okWide, hu, Cell.ok] at ho
            | sl h => rw [hu] at h; cases h; simp [Cell.okWide, hu, Cell.ok] at ho
            | struct h => rw [hu] at h; cases h; exact absurd rfl (hns _)
          subst this
          exact .d hx
  | [], _ :: _, _, _, _, _, h => by cases h
  | [], [], _ :: _, _, _, _, h => by cases h
  | _ :: _, [], _, _, _, _, h => by cases h
  | _ :: _, _ :: _, [], _, _, _, h => by cases h
def startG (w : World) : Gh := ⟨imW w, fun _ => none, fun _ => none, fun _ => none⟩
def startT (gt : Nat → Option (Array Value)) : Heap := ⟨fun _ => none, fun _ => false, gt, fun _ => none⟩
def startH : Heap := startT fun _ => none
theorem start_rel (w : World) {gt : Nat → Option (Array Value)} (hgt : ∀ b vs, gt b = some vs → ∃ ty fr, w.heap[b]? = some (.cells vs ty fr)) : Rel w.heap.size (startG w) (fun _ => False) (startT gt) w w :=
  ⟨fun _ _ _ h => h, fun _ _ h => by simp [startT] at h, fun _ _ _ h => by simp [startT] at h, fun _ h => by simp [startT] at h, fun _ h => h.elim, Below.refl _ _, Nat.le_refl _, ⟨0, fun _ _ => ⟨rfl, rfl, rfl⟩⟩, ⟨fun b vs h => by
    obtain ⟨ty, fr, hb⟩ := hgt b vs h
    exact ⟨(Array.getElem?_eq_some_iff.1 hb).1, ty, fr, hb⟩, fun _ _ h => by simp [startT] at h⟩⟩
theorem trodAll_below (hl : laidOutB P = true) {W W' : World} (hb : Below W.heap.size W W') : ∀ (ts : List TypeId) (vs : List Value) (ds : List (DataW H)) (ps : List MemPlace), (∀ t ∈ ts, P.readableRec t = true ∧ t < P.types.size) →
    (∀ x ∈ ps, x.block < W.heap.size) → DataW.TrodAll enc P W 0 (fun _ => true) true ts vs ds ps → DataW.TrodAll enc P W' 0 (fun b => decide (b < W.heap.size)) true ts vs ds ps
  | [], [], [], _, _, _, h => h
  | t :: ts, v :: vs, d :: ds, ps, hr, hlt, h => by
    obtain ⟨p, q, h1, h2, rfl⟩ := h
    exact ⟨p, q, Below.trod hl (hr t (by simp)).1 (hr t (by simp)).2 h1 hb (fun x hx => hlt x (by simp [hx])), trodAll_below hl hb ts vs ds q (fun t ht => hr t (by simp [ht])) (fun x hx => hlt x (by simp [hx])) h2, rfl⟩
  | [], _ :: _, _, _, _, _, h => by cases h
  | [], [], _ :: _, _, _, _, h => by cases h
  | _ :: _, [], _, _, _, _, h => by cases h
  | _ :: _, _ :: _, [], _, _, _, h => by cases h
theorem law_contractT {fn : Func} {s : ChangeSpec} {f : FuncId} {gt : Nat → Option (Array Value)} (S : List TypeId) (hl : laidOutB P = true) (hS : S.all (plainT P S) = true) (hin : ∀ t ∈ fn.params.toList, t ∈ S)
    (hread : ∀ t ∈ fn.params.toList, P.readableRec t = true ∧ t < P.types.size) {tb : TypeId} (hres : fn.resultTypes = #[tb]) (htb : P.underlying tb = some .bool) (hvars : s.vars = [])
    (hs : ∀ ds : List (DataW H), ds.length = fn.params.size → s.fn H ds = { results := [.lit (.bool true)], args := ds })
    (main : ∀ avs : List AV, DArgs P fn.params.toList avs → ACalls P f avs (startT gt) (fun v _ => v = .d (.bool true)))
    (W : World) (hgt : ∀ b vs, gt b = some vs → ∃ ty fr, W.heap[b]? = some (.cells vs ty fr)) (base : Nat) (args : Array Value) (ds gs : List (DataW H)) (before : List MemPlace)
    (hval : ∀ (j : Nat) t v, fn.params[j]? = some t → args[j]? = some v → Value.okWide P W .any base t v)
    (hW : DataW.Whole enc P fn.params.toList s.vars false W args.toList ds gs before) :
    Calls P f args W fun e W' => ∃ v, e = .returned v ∧ s.post enc P fn false true false false W args v W' := by
  have hW' := hW
  obtain ⟨p, q, hA, hV, rfl, hfz, hnd⟩ := hW
  rw [hvars] at hV
  obtain ⟨rfl, rfl⟩ := trodVars_none hV
  obtain ⟨avs, h1, h2⟩ := open_args hS (g := startG W) rfl fn.params.toList args.toList ds p hin (fun j t v ht hv => hval j t v (by simpa using ht) (by simpa using hv)) hA
  have hc := main avs h1 W.heap.size (startG W) (fun _ => False) W W args.toList (start_rel W hgt) h2
  simp only [Array.toArray_toList] at hc
  refine hc.mono fun e W' ⟨v, av, g', σ', he, hv, hrel, _, _, hav⟩ => ?_
  subst hav
  have hvt : v = .bool true := by cases hv with | d h => cases h; rfl
  subst hvt
  have hlen : ds.length = fn.params.size := by
    have : ∀ (ts : List TypeId) (vs : List Value) (ds : List (DataW H)) (ps : List MemPlace), DataW.TrodAll enc P W 0 (fun _ => true) true ts vs ds ps → ds.length = ts.length := by
      intro ts
      induction ts with
      | nil => intro vs ds ps h; cases vs <;> cases ds <;> first | rfl | (cases h; done)
      | cons t ts ih =>
        intro vs ds ps h
        cases vs <;> cases ds <;> try (cases h; done)
        obtain ⟨_, _, _, h2, _⟩ := h
        simpa using ih _ _ _ h2
    simpa using this _ _ _ _ hA
  have hlt : ∀ x ∈ p, x.block < W.heap.size := fun x hx => by simpa using hW'.lt x (by simp [hx])
  have hfn := hs (ds ++ []) (by simpa using hlen)
  refine ⟨_, he, ds, [], p ++ [], [], p, [], hW', ?_, ?_, ?_, hrel.bel.frame _, fun h => by cases h⟩
  · rw [hfn, hres]
    exact trodAll_mk1 ⟨1, by simp [DataW.trod, htb, Value.cells]⟩
  · rw [hfn]
    simpa using trodAll_below hl hrel.bel fn.params.toList args.toList ds p hread hlt hA
  · rw [hfn, hvars]
    rfl
theorem law_contract {fn : Func} {s : ChangeSpec} {f : FuncId} (S : List TypeId) (hl : laidOutB P = true) (hS : S.all (plainT P S) = true) (hin : ∀ t ∈ fn.params.toList, t ∈ S)
    (hread : ∀ t ∈ fn.params.toList, P.readableRec t = true ∧ t < P.types.size) {tb : TypeId} (hres : fn.resultTypes = #[tb]) (htb : P.underlying tb = some .bool) (hvars : s.vars = [])
    (hs : ∀ ds : List (DataW H), ds.length = fn.params.size → s.fn H ds = { results := [.lit (.bool true)], args := ds })
    (main : ∀ avs : List AV, DArgs P fn.params.toList avs → ACalls P f avs startH (fun v _ => v = .d (.bool true)))
    (W : World) (base : Nat) (args : Array Value) (ds gs : List (DataW H)) (before : List MemPlace)
    (hval : ∀ (j : Nat) t v, fn.params[j]? = some t → args[j]? = some v → Value.okWide P W .any base t v)
    (hW : DataW.Whole enc P fn.params.toList s.vars false W args.toList ds gs before) :
    Calls P f args W fun e W' => ∃ v, e = .returned v ∧ s.post enc P fn false true false false W args v W' :=
  law_contractT S hl hS hin hread hres htb hvars hs main W (fun _ _ h => by cases h) base args ds gs before hval hW
end
end Go.Ab

namespace Go.Ab
variable {P : Program} {t e : TypeId} {ds : List DV}
theorem DT.inv_int {k : IntKind} (h : DT P t ds) (hu : P.underlying t = some (.int k)) : ∃ n, ds = [.int k n] ∧ k.has n := by
  cases h with
  | int h hn => rw [hu] at h; cases h; exact ⟨_, rfl, hn⟩
  | bool h => rw [hu] at h; cases h
  | str h => rw [hu] at h; cases h
  | sl h => rw [hu] at h; cases h
  | struct h => rw [hu] at h; cases h
theorem DT.inv_bool (h : DT P t ds) (hu : P.underlying t = some .bool) : ∃ b, ds = [.bool b] := by
  cases h with
  | bool h => exact ⟨_, rfl⟩
  | int h => rw [hu] at h; cases h
  | str h => rw [hu] at h; cases h
  | sl h => rw [hu] at h; cases h
  | struct h => rw [hu] at h; cases h
theorem DT.inv_str (h : DT P t ds) (hu : P.underlying t = some .string) : ∃ s, ds = [.str s] ∧ s.length ≤ maxLen := by
  cases h with
  | str h hs => exact ⟨_, rfl, hs⟩
  | int h => rw [hu] at h; cases h
  | bool h => rw [hu] at h; cases h
  | sl h => rw [hu] at h; cases h
  | struct h => rw [hu] at h; cases h
theorem DT.inv_sl (h : DT P t ds) (hu : P.underlying t = some (.slice e)) : ∃ rows, ds = [.sl rows] ∧ rows.length ≤ maxLen ∧ ∀ r ∈ rows, DT P e r := by
  cases h with
  | sl h hm hr => rw [hu] at h; cases h; exact ⟨_, rfl, hm, hr⟩
  | int h => rw [hu] at h; cases h
  | bool h => rw [hu] at h; cases h
  | str h => rw [hu] at h; cases h
  | struct h => rw [hu] at h; cases h
theorem DT.inv_struct {fs : Array Field} (h : DT P t ds) (hu : P.underlying t = some (.struct fs)) : DTs P fs.toList ds := by
  cases h with
  | struct h hf => rw [hu] at h; cases h; exact hf
  | int h => rw [hu] at h; cases h
  | bool h => rw [hu] at h; cases h
  | str h => rw [hu] at h; cases h
  | sl h => rw [hu] at h; cases h
theorem DTs.inv_cons {f : Field} {fs : List Field} (h : DTs P (f :: fs) ds) : ∃ a b, ds = a ++ b ∧ DT P f.type a ∧ DTs P fs b := by
  cases h with
  | cons h hs => exact ⟨_, _, rfl, h, hs⟩
theorem DTs.inv_nil (h : DTs P [] ds) : ds = [] := by cases h; rfl
theorem rows_dec {α : Type} {p : List DV → α → Prop} : ∀ (rows : List (List DV)), (∀ r ∈ rows, ∃ x, p r x) → ∃ l : List α, l.length = rows.length ∧ ∀ (i : Nat) (r : List DV) (x : α), rows[i]? = some r → l[i]? = some x → p r x
  | [], _ => ⟨[], rfl, by simp⟩
  | r :: rows, h => by
    obtain ⟨x, hx⟩ := h r (by simp)
    obtain ⟨l, hl, hp⟩ := rows_dec rows (fun r hr => h r (by simp [hr]))
    refine ⟨x :: l, by simp [hl], fun i r' x' h1 h2 => ?_⟩
    cases i with
    | zero => simp at h1 h2; subst h1; subst h2; exact hx
    | succ i => exact hp i r' x' (by simpa using h1) (by simpa using h2)
theorem rows_map {α : Type} {f : α → List DV} : ∀ (rows : List (List DV)), (∀ r ∈ rows, ∃ x, r = f x) → ∃ l : List α, rows = l.map f
  | [], _ => ⟨[], rfl⟩
  | r :: rows, h => by
    obtain ⟨x, hx⟩ := h r (by simp)
    obtain ⟨l, hl⟩ := rows_map rows (fun r hr => h r (by simp [hr]))
    exact ⟨x :: l, by rw [hx, hl]; rfl⟩
end Go.Ab
