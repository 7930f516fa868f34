/- Operations that change the known state: new variables, stores, appends, new rows, calls. Conditions: none. -/
import Derived.Test.YtlckhmkeihbhmaaXAb7
set_option linter.unusedSimpArgs false
namespace Go.Ab
open Go.RowKit
variable {P : Program} {base N : Nat} {g g' : Gh} {Pr : Nat → Prop} {σ σ' : Heap} {w0 w w' : World} {lam : Nat → Option Nat} {F : Fm} {L : Lm} {a : Act}
def NoLp (k : Nat) (F : Fm) : Prop := ∀ s off, s ≠ k → F s ≠ .lp k off
def U : Fm := fun _ => .undef
def AV.lpOf (k : Nat) : AV → Bool
  | .lp k' _ => k' == k
  | _ => false
theorem NoLp_U (k : Nat) : NoLp k U := fun _ _ _ h => by cases h
theorem NoLp_put {k d : Nat} {v : AV} {F : Fm} (h : (d == k || !v.lpOf k) = true) (hF : NoLp k F) : NoLp k (put d v F) := by
  intro s off hs he
  simp only [put] at he
  split at he
  · rename_i e
    subst e he
    simp [AV.lpOf, hs] at h
  · exact hF s off hs he
def purge (k : Nat) (F : Fm) : Fm := fun s => if (F s).lpOf k then .undef else F s
theorem NoLp_purge (k : Nat) (F : Fm) : NoLp k (purge k F) := by
  intro s off _ he
  simp only [purge] at he
  split at he
  · cases he
  · rename_i h; rw [he] at h; simp [AV.lpOf] at h
theorem getD_put (a : Act) (d s : Nat) (v : Value) (hd : d < a.tmps.size) : (a.put (some d) v).tmps.getD s Go.undef = if s = d then v else a.tmps.getD s Go.undef := by
  simp only [Act.put]
  by_cases e : s = d
  · subst e; simp [Array.getD, hd]
  · rw [if_neg e]
    simp [Array.getD_eq_getD_getElem?, Array.getElem?_setIfInBounds_ne (Ne.symm e)]
theorem FRel.put (h : FRel base g lam Pr N F L σ a w0 w) {d : Nat} (hd : d < N) {v : AV} {x : Value} (hv : SV g lam v x) :
    FRel base g lam Pr N (put d v F) L σ (a.put (some d) x) w0 w := by
  refine ⟨fun s => ?_, by simpa [Act.put] using h.sz, h.df, h.loc, h.inj, h.npr, h.rel⟩
  rw [getD_put a d s x (by rw [h.sz]; exact hd)]
  simp only [Ab.put]
  split
  · exact hv
  · exact h.tm s
theorem FRel.putO (h : FRel base g lam Pr N F L σ a w0 w) {d : Option Nat} (hd : ∀ k, d = some k → k < N) {v : AV} {x : Value} (hv : SV g lam v x) :
    FRel base g lam Pr N (putO d v F) L σ (a.put d x) w0 w := by
  cases d with
  | none => exact h
  | some d => exact h.put (hd d rfl) hv
theorem FRel.newLocal (h : FRel base g lam Pr N F L σ a w0 w) {d : Nat} (hd : d < N) (hn : NoLp d F) {cs : List AV} {vs : Array Value} (ty : TypeId) (hr : VRs g cs vs.toList) (hok : cellsOk cs = true) :
    FRel base g (fun k => if k = d then some w.heap.size else lam k) Pr N (Ab.put d (.lp d 0) F) (putL d cs L) σ (a.put (some d) (.pointer (some ⟨w.heap.size, 0, none⟩))) w0 (w.alloc (.cells vs ty)) := by
  have hlt : ∀ k b, lam k = some b → b < w.heap.size := fun k b hb => h.loc_lt hb
  refine ⟨fun s => ?_, by simpa [Act.put] using h.sz, h.df, fun k cs' hk => ?_, fun k k' b hk hk' => ?_, fun k b hk hp => ?_, ?_⟩
  · rw [getD_put a d s _ (by rw [h.sz]; exact hd)]
    simp only [Ab.put]
    split
    · exact ⟨w.heap.size, by simp, rfl⟩
    · rename_i hs
      have ht := h.tm s
      cases hF : F s <;> rw [hF] at ht <;> try exact ht
      rename_i k off
      have hk : k ≠ d := fun e => hn s off hs (e ▸ hF)
      obtain ⟨b, hb, he⟩ := ht
      exact ⟨b, by simp [hk, hb], he⟩
  · simp only [putL] at hk
    split at hk
    · rename_i e
      subst e; cases hk
      exact ⟨hok, w.heap.size, vs, ty, by simp, h.rel.bs, heap_alloc_new w _, hr⟩
    · rename_i e
      obtain ⟨hok', b, vs', ty', hb, hlow, hheap, hr'⟩ := h.loc k cs' hk
      exact ⟨hok', b, vs', ty', by simp [e, hb], hlow, by rw [heap_alloc_old w _ b (hlt k b hb)]; exact hheap, hr'⟩
  · by_cases e : k = d <;> by_cases e' : k' = d <;> simp only [e, e', if_true, if_false] at hk hk'
    · omega
    · have := hlt _ _ hk'; cases hk; omega
    · have := hlt _ _ hk; cases hk'; omega
    · exact h.inj k k' b hk hk'
  · by_cases e : k = d
    · simp only [e, if_true] at hk; cases hk; have := (h.rel.pr _ (.inl hp)).1; omega
    · simp only [e, if_false] at hk; exact h.npr k b hk hp
  · refine h.rel.grow (by simp) (fun b hb _ => heap_alloc_old w _ b hb) (below_alloc h.rel.bs) fun b hb => ?_
    rcases hb with hp | ⟨k, hk⟩
    · exact ⟨by have := (h.rel.pr b (.inl hp)).1; simp; omega, .inl (.inl hp)⟩
    · by_cases e : k = d
      · simp only [e, if_true] at hk; cases hk; exact ⟨by simp, .inr (Nat.le_refl _)⟩
      · simp only [e, if_false] at hk; exact ⟨by have := hlt k b hk; simp; omega, .inl (.inr ⟨k, hk⟩)⟩
def wr (cs : List AV) (o : Nat) (new : List AV) : List AV := cs.take o ++ new ++ cs.drop (o + new.length)
def stA (L : Lm) (σ : Heap) (new : List AV) : AV → Option (Lm × Heap)
  | .lp k o => (L k).bind fun cs => if o + new.length ≤ cs.length then some (putL k (wr cs o new) L, σ) else none
  | .gp i o => (σ.blk i).bind fun cs => if o + new.length ≤ cs.length then some (L, σ.setBlk i (wr cs o new)) else none
  | _ => none
theorem take_wr {α : Type} (arr vs : List α) (o n : Nat) (h : o + vs.length ≤ n) (hn : n ≤ arr.length) : (arr.take o ++ vs ++ arr.drop (o + vs.length)).take n = (arr.take n).take o ++ vs ++ (arr.take n).drop (o + vs.length) := by
  have h1 : (arr.take o).length = o := by simp; omega
  have h2 : ((arr.take n).take o).length = o := by simp; omega
  refine List.ext_getElem? fun i => ?_
  rw [List.getElem?_take]
  by_cases hi : i < n
  · rw [if_pos hi]
    by_cases h3 : i < o
    · rw [List.append_assoc, List.append_assoc, List.getElem?_append_left (by omega), List.getElem?_append_left (by omega), List.getElem?_take, List.getElem?_take, List.getElem?_take, if_pos h3, if_pos h3, if_pos hi]
    · by_cases h4 : i < o + vs.length
      · have h5 : (arr.take o ++ vs).length = o + vs.length := by rw [List.length_append, h1]
        have h6 : ((arr.take n).take o ++ vs).length = o + vs.length := by rw [List.length_append, h2]
        rw [List.getElem?_append_left (l₁ := arr.take o ++ vs) (by omega), List.getElem?_append_left (l₁ := (arr.take n).take o ++ vs) (by omega), List.getElem?_append_right (by omega), List.getElem?_append_right (by omega), h1, h2]
      · have h5 : (arr.take o ++ vs).length = o + vs.length := by rw [List.length_append, h1]
        have h6 : ((arr.take n).take o ++ vs).length = o + vs.length := by rw [List.length_append, h2]
        rw [List.getElem?_append_right (by omega), List.getElem?_append_right (by omega), List.getElem?_drop, List.getElem?_drop, List.getElem?_take, h5, h6, if_pos (by omega)]
  · rw [if_neg hi, List.getElem?_eq_none]
    simp only [List.length_append, h2, List.length_drop, List.length_take]
    omega
theorem below_setRow {b : Nat} {cs : Array Value} (hb : base ≤ b) : Below base w (w.setRow b cs) :=
  ⟨rfl, rfl, rfl, by simp, fun k hk => setRow_other w b k cs (by omega)⟩
theorem FRel.store (h : FRel base g lam Pr N F L σ a w0 w) {new : List AV} {vs : List Value} {p : AV} {pvl : Value} (hp : SV g lam p pvl) (hr : VRs g new vs) (hok : cellsOk new = true)
    {L' : Lm} {σ' : Heap} (hst : stA L σ new p = some (L', σ')) :
    ∃ ad w', pvl = .pointer (some ad) ∧ (storeCells ad vs).run P w = .ok () w' ∧ KP Pr w w' ∧ FRel base g lam Pr N F L' σ' a w0 w' := by
  have hones := hr.ones hok
  have hlen := hr.length
  cases p with
  | lp k o =>
    obtain ⟨b, hb, rfl⟩ := hp
    simp only [stA, Option.bind_eq_some_iff] at hst
    obtain ⟨cs, hcs, hst⟩ := hst
    split at hst
    · rename_i hle
      cases hst
      obtain ⟨hokc, b', arr, ty, hb', hlow, hheap, hrc⟩ := h.loc k cs hcs
      rw [hb] at hb'; cases hb'
      have hal := hrc.length
      have hrun := run_storeCells_at P b o ty vs 0 arr w hheap (by simp at hal; omega) hones
      simp only [Nat.add_zero] at hrun
      refine ⟨_, _, rfl, hrun, ⟨by simp, fun b2 hp2 => setRow_other w b b2 _ (fun e => h.npr k b hb (e ▸ hp2))⟩, ?_⟩
      refine ⟨h.tm, h.sz, h.df, fun k2 cs2 hk2 => ?_, h.inj, h.npr, ?_⟩
      · simp only [putL] at hk2
        split at hk2
        · rename_i e
          subst e; cases hk2
          refine ⟨by simp [wr, cellsOk_append, cellsOk_take _ hokc, cellsOk_drop _ hokc, hok], b, _, ty, hb, hlow, setRow_heap w b arr _ ty _ hheap, ?_⟩
          simp only [wr, hlen]
          exact ((hrc.take o).append hr).append (hrc.drop _)
        · rename_i e
          obtain ⟨hok2, b2, vs2, ty2, hb2, hlow2, hheap2, hr2⟩ := h.loc k2 cs2 hk2
          exact ⟨hok2, b2, vs2, ty2, hb2, hlow2, by rw [setRow_other w b b2 _ (fun e' => e (h.inj k2 k b (e' ▸ hb2) hb))]; exact hheap2, hr2⟩
      · exact h.rel.grow (by simp) (fun b2 _ hn => setRow_other w b b2 _ (fun e => hn (.inr ⟨k, e ▸ hb⟩))) (below_setRow hlow)
          (fun b2 hb2 => ⟨by have := (h.rel.pr b2 hb2).1; simpa using this, .inl hb2⟩)
    · cases hst
  | gp i o =>
    simp only [stA, Option.bind_eq_some_iff] at hst
    obtain ⟨cs, hcs, hst⟩ := hst
    split at hst
    · rename_i hle
      cases hst
      obtain ⟨b, hm, ho⟩ := h.rel.shr i cs hcs
      obtain ⟨arr, ty, hheap, hle0, hrt, hrc⟩ := ho.row
      cases hp with
      | gp hm' =>
        rw [hm] at hm'; cases hm'
        have hrun := run_storeCells_at P b o ty vs 0 arr w hheap (by omega) hones
        simp only [Nat.add_zero] at hrun
        have hpr : ¬ (Pr b ∨ ∃ k, lam k = some b) := ho.pr
        refine ⟨_, _, rfl, hrun, ⟨by simp, fun b2 hp2 => setRow_other w b b2 _ (fun e => hpr (.inl (e ▸ hp2)))⟩, ?_⟩
        refine h.step (Gh.le_refl g) (fun k b2 hk => setRow_other w b b2 _ (fun e => hpr (.inr ⟨k, e ▸ hk⟩))) ?_
        have hwl : (wr cs o new).length = cs.length := by simp [wr]; omega
        refine h.rel.write hcs hm (by simp) (fun k _ hk => setRow_other w b k _ hk) (below_setRow ho.low) (setRow_heap w b arr _ ty _ hheap) (by rw [hwl]; simp; omega) (fun t ht => ⟨by rw [← (hrt t ht).1]; simp; omega, (hrt t ht).2⟩) ?_ (by simp [wr, cellsOk_append, cellsOk_take _ ho.ok, cellsOk_drop _ ho.ok, hok])
        rw [hwl]
        have e := take_wr arr.toList vs o cs.length (by omega) (by simpa using hle0)
        simp only [List.toList_toArray]
        rw [e]
        simp only [wr, hlen]
        exact ((hrc.take o).append hr).append (hrc.drop _)
    · cases hst
  | _ => simp [stA] at hst
def appA (σ : Heap) (e size : Nat) : AV → Option (List (List DV) × Heap)
  | .nils => some ([], σ)
  | .own t e' s' rows => if e' = e ∧ s' = size ∧ σ.tok t = true then some (rows, σ.delTok t) else none
  | _ => none
theorem flat_get {size : Nat} : ∀ (rows : List (List DV)), (∀ r ∈ rows, r.length = size) → ∀ (i j : Nat) (r : List DV) (x : DV), rows[i]? = some r → r[j]? = some x → (rows.flatten)[i * size + j]? = some x
  | [], _, i, j, r, x, hi, _ => by simp at hi
  | r0 :: rows, hs, 0, j, r, x, hi, hj => by
    simp at hi; subst hi
    have := (List.getElem?_eq_some_iff.1 hj).1
    simp only [Nat.zero_mul, Nat.zero_add, List.flatten_cons]
    rw [List.getElem?_append_left this]; exact hj
  | r0 :: rows, hs, i + 1, j, r, x, hi, hj => by
    have h0 : r0.length = size := hs r0 (by simp)
    simp only [List.flatten_cons]
    rw [List.getElem?_append_right (by rw [h0, Nat.succ_mul]; omega), h0]
    have : (i + 1) * size + j - size = i * size + j := by rw [Nat.succ_mul]; omega
    rw [this]
    exact flat_get rows (fun r hr => hs r (by simp [hr])) i j r x (by simpa using hi) hj
theorem flat_length {size : Nat} : ∀ (rows : List (List DV)), (∀ r ∈ rows, r.length = size) → rows.flatten.length = rows.length * size
  | [], _ => by simp
  | r0 :: rows, hs => by
    simp only [List.flatten_cons, List.length_append, List.length_cons, Nat.succ_mul]
    rw [flat_length rows (fun r hr => hs r (by simp [hr])), hs r0 (by simp)]; omega
theorem RD.cellsOf {im : Nat → Nat → Option Value} {rows : List (List DV)} {size : Nat} (hs : ∀ r ∈ rows, r.length = size) {b off len cap : Nat}
    (h : RD im (.sl rows) (.slice (some ⟨b, off, none⟩) len cap)) (h0 : 0 < rows.length) : ∃ vs : List Value, vs.length = rows.length * size ∧ len = rows.length ∧
      (∀ (j : Nat) (u : Value), vs[j]? = some u → im b (off + j) = some u) ∧ (∀ (j : Nat) (x : DV), rows.flatten[j]? = some x → ∃ v, vs[j]? = some v ∧ RD im x v) := by
  cases h with
  | nil => simp at h0
  | @sl _ _ _ _ size' f hc hm hs' hi hr =>
    have hsz : size' = size := by
      obtain ⟨r, hr⟩ : ∃ r, r ∈ rows := by cases rows with | nil => simp at h0 | cons r _ => exact ⟨r, by simp⟩
      rw [← hs r hr, hs' r hr]
    subst hsz
    by_cases hz : size' = 0
    · subst hz
      refine ⟨[], by simp, rfl, by simp, fun j x hx => ?_⟩
      have := flat_length rows hs
      have := (List.getElem?_eq_some_iff.1 hx).1
      omega
    have hpos : 0 < size' := Nat.pos_of_ne_zero hz
    refine ⟨(List.range (rows.length * size')).map fun j => f (j / size') (j % size'), by simp, rfl, fun j u hj => ?_, fun j x hx => ?_⟩
    · rw [List.getElem?_map, Option.map_eq_some_iff] at hj
      obtain ⟨j', hj', rfl⟩ := hj
      have hlt : j < rows.length * size' := by
        rcases Nat.lt_or_ge j (rows.length * size') with h1 | h1
        · exact h1
        · simp [h1] at hj'
      rw [List.getElem?_range hlt] at hj'; cases hj'
      have h1 : j / size' < rows.length := (Nat.div_lt_iff_lt_mul hpos).2 hlt
      have h2 : j % size' < size' := Nat.mod_lt _ hpos
      have := hi (j / size') (j % size') h1 h2
      rw [Nat.add_assoc, Nat.mul_comm, Nat.div_add_mod] at this
      exact this
    · have hlt : j < rows.length * size' := by rw [← flat_length rows hs]; exact (List.getElem?_eq_some_iff.1 hx).1
      refine ⟨f (j / size') (j % size'), by rw [List.getElem?_map, List.getElem?_range hlt]; rfl, ?_⟩
      have h1 : j / size' < rows.length := (Nat.div_lt_iff_lt_mul hpos).2 hlt
      have h2 : j % size' < size' := Nat.mod_lt _ hpos
      have hrow : rows[j / size']? = some rows[j / size'] := by simp [h1]
      have hcell : (rows[j / size'])[j % size']? = some ((rows[j / size'])[j % size']'(by rw [hs' _ (List.getElem_mem h1)]; exact h2)) := by
        have hh : j % size' < (rows[j / size']).length := by rw [hs' _ (List.getElem_mem h1)]; exact h2
        simp [hh]
      have := flat_get rows hs' _ _ _ _ hrow hcell
      rw [Nat.mul_comm, Nat.div_add_mod, hx] at this
      cases this
      exact hr _ _ _ _ hrow hcell
theorem RD.ofFlat {im : Nat → Nat → Option Value} {rows : List (List DV)} {size b off cap : Nat} {ys : List Value} (hs : ∀ r ∈ rows, r.length = size) (hc : rows.length ≤ cap) (hm : cap ≤ maxLen)
    (hl : ys.length = rows.length * size) (him : ∀ (j : Nat) (u : Value), ys[j]? = some u → im b (off + j) = some u)
    (hr : ∀ (j : Nat) (x : DV), rows.flatten[j]? = some x → ∃ v, ys[j]? = some v ∧ RD im x v) : RD im (.sl rows) (.slice (some ⟨b, off, none⟩) rows.length cap) := by
  refine .sl (size := size) (f := fun i j => ys.getD (i * size + j) (.bool false)) hc hm hs (fun i j hi hj => ?_) (fun i r j x hi hj => ?_)
  · have : i * size + size ≤ rows.length * size := by rw [← Nat.succ_mul]; exact Nat.mul_le_mul_right _ hi
    have hlt : i * size + j < ys.length := by omega
    rw [Nat.add_assoc]
    exact him _ _ (by simp [List.getElem?_eq_getElem hlt])
  · obtain ⟨v, hv, hrd⟩ := hr _ _ (flat_get rows hs i j r x hi hj)
    rw [List.getD_eq_getElem?_getD, hv]
    exact hrd
theorem own_len {e size n : Nat} {v : Value} {xs : List Value} (h : w.ownsRow base e size v n xs) {rows : List (List DV)} {im : Nat → Nat → Option Value} (hr : RD im (.sl rows) v) : n = rows.length := by
  obtain ⟨ad, cap, rfl, _⟩ := hr.sl_len
  rcases h.2 with ⟨he, rfl⟩ | ⟨gg, cap', cur, he, _⟩
  · simp only [Value.slice.injEq] at he; exact he.2.1.symm
  · simp only [Value.slice.injEq] at he; exact he.2.1.symm
theorem app_sound {t ty e : TypeId} {i : TypeInfo} {z : Value} (ht : P.underlying t = some (.slice e)) (hi : P.info? e = some i) (hz : i.zero = some z) (hzs : z.cells.size = i.size)
    (h : FRel base g lam Pr N F L σ a w0 w) {p q : AV} {pvl qvl : Value} (hp : SV g lam p pvl) (hq : SV g lam q qvl) {rows srows : List (List DV)} {σ1 : Heap}
    (hpa : appA σ e i.size p = some (rows, σ1)) (hqr : q.rows = some srows) (hss : ∀ r ∈ srows, r.length = i.size)
    (h63 : rows.length + srows.length ≤ maxLen) (hby : (rows.length + srows.length) * i.bytes ≤ 140737488355328) :
    ∃ x g' w' t', (Builtin.append_ #[t, t] ty #[pvl, qvl]).run P w = .ok x w' ∧ g.le g' ∧ KP Pr w w' ∧ σ.tok t' = false ∧ VR g' (.own t' e i.size (rows ++ srows)) x ∧
      FRel base g' lam Pr N F L (σ1.addTok t') a w0 w' := by
  obtain ⟨t', _, htau, _, htok⟩ := h.rel.fresh
  -- the owner
  have hmine : ∃ xs, Mine base g (fun b => Pr b ∨ ∃ k, lam k = some b) σ1 w e i.size pvl rows.length xs ∧ σ1.le σ ∧ (∀ r ∈ rows, r.length = i.size) ∧
      (∀ (j : Nat) (x : DV), rows.flatten[j]? = some x → ∃ v, xs[j]? = some v ∧ RD g.im x v) := by
    unfold appA at hpa
    split at hpa
    · cases hpa; cases hp
      exact ⟨[], Mine.nil _ _ _ _ _ _ _, Heap.le_refl _, by simp, by simp⟩
    · split at hpa
      · rename_i hcond
        obtain ⟨rfl, rfl, htk⟩ := hcond
        cases hpa
        cases hp with
        | own hrd htau2 hsz =>
          obtain ⟨n, xs, hm⟩ := h.rel.mine htk htau2
          have hn := own_len hm.1 hrd
          subst hn
          refine ⟨xs, hm, Heap.delTok_le _ _, hsz, fun j x hx => ?_⟩
          have hpos : 0 < rows.length := by cases rows with | nil => simp at hx | cons => simp
          rcases hm.1.2 with ⟨_, h0⟩ | ⟨gg, cap, cur, rfl, hbg, hgg, _⟩
          · omega
          obtain ⟨vs, hvl, _, hvi, hvr⟩ := RD.cellsOf hsz hrd hpos
          obtain ⟨v, hv, hrdv⟩ := hvr j x hx
          refine ⟨v, ?_, hrdv⟩
          have hlt : j < xs.length := by rw [hm.1.1, ← hvl]; exact (List.getElem?_eq_some_iff.1 hv).1
          have h1 := h.rel.im _ _ _ (hvi j v hv)
          have h2 := hm.1.cells (g := gg) rfl j xs[j] (by simp [hlt])
          rw [Addr.add_lit, Nat.zero_add] at h2
          rw [Nat.zero_add] at h1
          rw [h1] at h2; cases h2
          simp [hlt]
      · cases hpa
    · cases hpa
  obtain ⟨xs, hmine, hle1, hsz, hxs⟩ := hmine
  -- the source
  have hsrc : ∃ (m : Nat) (news : List Value) (v' : Value) (w' : World), (Builtin.append_ #[t, t] ty #[pvl, qvl]).run P w = .ok v' w' ∧ m = srows.length ∧ news.length = m * i.size ∧
      w'.ownsRow base e i.size v' (rows.length + m) (xs ++ news) ∧ w.grownBy w' v'.ownBlock ∧ (∀ k, v'.ownBlock = some k → pvl.ownBlock = some k ∨ w.heap.size ≤ k) ∧
      (∀ (j : Nat) (x : DV), srows.flatten[j]? = some x → ∃ v, news[j]? = some v ∧ RD g.im x v) := by
    have hqd : RD g.im (.sl srows) qvl := by
      cases q with
      | d x => cases x <;> simp only [AV.rows, Option.some.injEq] at hqr <;> try (cases hqr; done)
               subst hqr; cases hq with | d h => exact h
      | nils => simp only [AV.rows, Option.some.injEq] at hqr; subst hqr; cases hq; exact .nil (Nat.zero_le _) (fun _ => rfl)
      | own _ _ _ _ => simp only [AV.rows, Option.some.injEq] at hqr; subst hqr; cases hq with | own h _ _ => exact h
      | clip _ => simp only [AV.rows, Option.some.injEq] at hqr; subst hqr; cases hq with | clip h => exact h
      | _ => cases hqr
    by_cases h0 : srows.length = 0
    · have hnil : srows = [] := List.eq_nil_of_length_eq_zero h0
      subst hnil
      cases hqd with
      | @nil ad cap hcm hcap =>
        cases ad with
        | none =>
          have := hcap rfl; subst this
          refine ⟨0, [], pvl, w, run_append_owned_none w base t ty e i i.size ht hi pvl rows.length xs hmine.1, rfl, by simp, by simpa using hmine.1, ⟨rfl, rfl, rfl, Nat.le_refl _, fun _ _ _ => rfl⟩, fun k hk => .inl hk, by simp⟩
        | some ad =>
          obtain ⟨v', w', h1, h2, h3, h4⟩ := run_append_own2 (P := P) w base t ty e i z i.size i.bytes ht hi hz rfl rfl hzs pvl rows.length xs hmine.1 ad 0 cap [] (by simp) (by simp) (by simp) (by simpa using h63) (by simpa using hby) h.rel.bs
          exact ⟨0, [], v', w', h1, rfl, by simp, h2, h3, h4, by simp⟩
      | sl hc hm hs hi hr =>
        obtain ⟨v', w', h1, h2, h3, h4⟩ := run_append_own2 (P := P) w base t ty e i z i.size i.bytes ht ‹_› hz rfl rfl hzs pvl rows.length xs hmine.1 _ 0 _ [] (by simp) (by simp) (by simp) (by simpa using h63) (by simpa using hby) h.rel.bs
        exact ⟨0, [], v', w', h1, rfl, by simp, h2, h3, h4, by simp⟩
    · obtain ⟨ad, cap, rfl, _⟩ := hqd.sl_len
      have hpos : 0 < srows.length := Nat.pos_of_ne_zero h0
      obtain ⟨b, off, rfl⟩ : ∃ b off, ad = some ⟨b, off, none⟩ := by
        generalize hvv : (Value.slice ad srows.length cap) = vv at hqd
        cases hqd with
        | nil => simp at hpos
        | sl => cases hvv; exact ⟨_, _, rfl⟩
      obtain ⟨news, hnl, _, hni, hnr⟩ := RD.cellsOf hss hqd hpos
      have hones : ∀ u ∈ news, u.oneCell' = true := by
        intro u hu
        obtain ⟨j, hj, rfl⟩ := List.getElem_of_mem hu
        have hjf : j < srows.flatten.length := by rw [flat_length srows hss, ← hnl]; exact hj
        obtain ⟨v, hv, hrd⟩ := hnr j srows.flatten[j] (by simp)
        have : v = news[j] := by rw [List.getElem?_eq_getElem hj] at hv; cases hv; rfl
        rw [← this]; exact hrd.one
      obtain ⟨v', w', h1, h2, h3, h4⟩ := run_append_own2 (P := P) w base t ty e i z i.size i.bytes ht hi hz rfl rfl hzs pvl rows.length xs hmine.1 ⟨b, off, none⟩ srows.length cap news hnl
        (fun j u hu => by rw [Addr.add_lit]; exact h.rel.im _ _ _ (hni j u hu)) hones h63 hby h.rel.bs
      exact ⟨srows.length, news, v', w', h1, rfl, hnl, h2, h3, h4, hnr⟩
  obtain ⟨m, news, v', w', hrun, rfl, hnl, hown', hgr, hwh, hnr⟩ := hsrc
  have hrel1 := h.rel.less hle1
  have hle := hrel1.grow_le (news := news) (e := e) (size := i.size) (t' := t') hmine hwh htau
  have hrel' := hrel1.grew (t' := t') hmine hown' hgr hwh htau
  have hnpr : ∀ b, v'.ownBlock = some b → ¬ (Pr b ∨ ∃ k, lam k = some b) := fun b hb => by
    rcases hwh b hb with hvb | hge
    · exact (hmine.2 b hvb).2.1
    · intro hp; have := (h.rel.pr b hp).1; omega
  refine ⟨v', g.grow v' e i.size t' (xs ++ news), w', t', hrun, hle, ⟨hgr.size, fun b hb => hgr.block b (h.rel.pr b (.inl hb)).1 (fun e' => hnpr b e'.symm (.inl hb))⟩, htok, ?_,
    h.step hle (fun k b hb => hgr.block b (h.loc_lt hb) (fun e' => hnpr b e'.symm (.inr ⟨k, hb⟩))) hrel'⟩
  have hall : ∀ r ∈ rows ++ srows, r.length = i.size := fun r hr => by
    rcases List.mem_append.1 hr with h1 | h1
    · exact hsz r h1
    · exact hss r h1
  refine .own ?_ (by simp [Gh.grow]) hall
  have hxl : xs.length = rows.length * i.size := hmine.1.1
  rcases hown'.2 with ⟨rfl, h0⟩ | ⟨gg, cap, cur, rfl, hbg, hgg, hnc, hcm, _⟩
  · have : rows ++ srows = [] := List.eq_nil_of_length_eq_zero (by rw [List.length_append]; exact h0)
    rw [this]; exact .nil (Nat.zero_le _) (fun _ => rfl)
  · have := RD.ofFlat (im := (g.grow (.slice (some ⟨gg, 0, none⟩) (rows.length + srows.length) cap) e i.size t' (xs ++ news)).im) (rows := rows ++ srows) (size := i.size) (b := gg) (off := 0) (cap := cap) (ys := xs ++ news)
      hall (by simpa using hnc) hcm (by rw [hown'.1]; simp) (fun j u hu => by simp only [Gh.grow, Value.ownBlock, if_true, Nat.zero_add]; exact hu) (fun j x hx => by
        rw [List.flatten_append] at hx
        have hfl := flat_length rows hsz
        rcases Nat.lt_or_ge j rows.flatten.length with h1 | h1
        · rw [List.getElem?_append_left h1] at hx
          obtain ⟨v, hv, hrd⟩ := hxs j x hx
          exact ⟨v, by rw [List.getElem?_append_left (by omega)]; exact hv, hrd.mono hle.im⟩
        · rw [List.getElem?_append_right h1] at hx
          obtain ⟨v, hv, hrd⟩ := hnr _ x hx
          refine ⟨v, ?_, hrd.mono hle.im⟩
          rw [List.getElem?_append_right (by omega), hxl, ← hfl]; exact hv)
    simpa using this
end Go.Ab
