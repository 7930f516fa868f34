/- Sorting a shared row of pairs. Conditions: none. -/
import Derived.Test.YtdbpmhfepfpldaaDoorXBr
import Derived.Test.YtdbpmhfepfpldaaDoorXPr0
set_option linter.unusedSimpArgs false
set_option linter.unusedVariables false
namespace Go.Ab
open Go.RowKit Go.Sort Go.Proofs
variable {P : Program} {base N : Nat} {g g' : Gh} {Pr : Nat → Prop} {σ σ' : Heap} {w0 w w' : World}

def has2 (x : Int × Int) : Prop := IntKind.i64.has x.1 ∧ IntKind.i64.has x.2

theorem prs_read {vs : Array Value} {l : List (Int × Int)} (h : VRs g (prs l) (vs.toList.take (prs l).length)) (q : Nat) (x : Int × Int) (hx : l[q]? = some x) :
    vs[q * 2]? = some (.int .i64 x.1) ∧ vs[q * 2 + 1]? = some (.int .i64 x.2) ∧ has2 x := by
  obtain ⟨h1, h2⟩ := prs_get l q x hx
  obtain ⟨v, hv, hr⟩ := h.at _ _ h1
  obtain ⟨u, hu, hr'⟩ := h.at _ _ h2
  obtain ⟨rfl, ha⟩ := hr.int_inv
  obtain ⟨rfl, hb⟩ := hr'.int_inv
  have e1 := (List.getElem?_eq_some_iff.1 h1).1
  have e2 := (List.getElem?_eq_some_iff.1 h2).1
  rw [List.getElem?_take, if_pos e1] at hv
  rw [List.getElem?_take, if_pos e2] at hu
  exact ⟨by simpa using hv, by simpa using hu, ha, hb⟩

theorem prs_vrs (vs : Array Value) (l : List (Int × Int)) (hl : (prs l).length ≤ vs.size) (h : ∀ (q : Nat) (x : Int × Int), l[q]? = some x → vs[q * 2]? = some (.int .i64 x.1) ∧ vs[q * 2 + 1]? = some (.int .i64 x.2) ∧ has2 x) :
    VRs g (prs l) (vs.toList.take (prs l).length) := by
  refine VRs.of_idx _ _ (by simp; omega) (fun t c v hc hv => ?_)
  have ht : t < (prs l).length := (List.getElem?_eq_some_iff.1 hc).1
  have hq : t / 2 < l.length := by rw [prs_len] at ht; omega
  obtain ⟨x, hx⟩ : ∃ x, l[t / 2]? = some x := ⟨l[t / 2], by simp [hq]⟩
  obtain ⟨h1, h2, h3, h4⟩ := h _ x hx
  obtain ⟨k1, k2⟩ := prs_get l _ x hx
  rw [List.getElem?_take, if_pos ht, Array.getElem?_toList] at hv
  rcases Nat.mod_two_eq_zero_or_one t with e | e
  · rw [show t / 2 * 2 = t by omega] at h1 k1
    rw [k1] at hc; rw [h1] at hv; cases hc; cases hv
    exact .d (.int h3)
  · rw [show t / 2 * 2 + 1 = t by omega] at h2 k2
    rw [k2] at hc; rw [h2] at hv; cases hc; cases hv
    exact .d (.int h4)

def cmpF (x y : Int × Int) : Int := Lib.compareInt x.1 y.1

theorem cmpF_lt (x y : Int × Int) : ltOf cmpF x y = decide (x.1 < y.1) := by
  unfold ltOf cmpF Lib.compareInt
  by_cases h1 : x.1 < y.1
  · simp [h1]
  · by_cases h2 : y.1 < x.1 <;> simp [h1, h2]

theorem cmpF_swo : SWO (ltOf cmpF) where
  irrefl x := by rw [cmpF_lt]; simp
  trans x y z h1 h2 := by rw [cmpF_lt] at *; simp at *; omega
  ntrans x y z h1 h2 := by rw [cmpF_lt] at *; simp at *; omega

theorem getB (d : Array (Int × Int)) (q : Nat) (x : Int × Int) (h : d[q]? = some x) : d[q]! = x := by
  rw [Array.getElem!_eq_getD, Array.getD_eq_getD_getElem?, h]; rfl

theorem flat_at (d : Array (Int × Int)) (q : Nat) (x : Int × Int) (h : d[q]? = some x) : (flatK encI 2 d)[q * 2]! = .int .i64 x.1 ∧ (flatK encI 2 d)[q * 2 + 1]! = .int .i64 x.2 := by
  have hq : q < d.size := (Array.getElem?_eq_some_iff.1 h).1
  rw [get_flatK _ _ _ _ (by omega), get_flatK _ _ _ _ (by omega), show q * 2 / 2 = q by omega, show (q * 2 + 1) / 2 = q by omega, show q * 2 % 2 = 0 by omega, show (q * 2 + 1) % 2 = 1 by omega, getB d q x h]
  exact ⟨rfl, rfl⟩

theorem sort_ms {f sf : FuncId}
    (hc : ∀ (blk cap : Nat) (d : Array (Int × Int)) (w : World), HoldsK encI 2 w blk 0 d → blk < w.heap.size → d.size < 4611686018427387904 →
      Calls P f #[.slice (some ⟨blk, 0, none⟩) d.size cap, .func (.func sf) #[] #[]] w fun e w' => e = .returned (.tuple #[]) ∧ ∃ d' n os, PermIn 0 d.size d d' ∧ SortedIn (ltOf cmpF) 0 d.size d' ∧ w' = sortWorldK encI 2 w blk 0 n d' os)
    {i e : Nat} {l : List (Int × Int)} (hsz : l.length < 4611686018427387904) (hb : σ.blk i = some (prs l)) :
    ACalls P f [.ms i l.length 2 e, .fn sf [] []] σ (fun v σ' => v = .tup [] ∧ ∃ l', l'.Perm l ∧ l'.Pairwise (fun a b => a.1 ≤ b.1) ∧ σ' = σ.setBlk i (prs l')) := by
  intro base g Pr w0 w vs hr hv
  obtain ⟨v, u, rfl, h1, h2⟩ := hv.two
  obtain ⟨b, hm, hs⟩ := hr.shr i _ hb
  cases h1 with | @ms _ _ _ _ _ cap hm' _ _ _ =>
  rw [hm] at hm'; cases hm'
  cases h2 with | @fn _ _ _ fs cs hl hl' _ _ =>
  obtain rfl : fs = [] := List.length_eq_zero_iff.1 hl
  obtain rfl : cs = [] := List.length_eq_zero_iff.1 hl'
  obtain ⟨vs, ty, hh, hle, hrt, hvv⟩ := hs.row
  have hread := fun q x hx => prs_read hvv q x hx
  have hlt : b < w.heap.size := (Array.getElem?_eq_some_iff.1 hh).1
  have hfz : ∀ o, w.frozen? ⟨b, o, none⟩ = false := fun o => by simp [World.frozen?, hh]
  have hH : HoldsK encI 2 w b 0 l.toArray := by
    intro j hj
    rw [size_flatK] at hj
    have hj' : j / 2 < l.length := by simp at hj; omega
    obtain ⟨x, hx⟩ : ∃ x, l[j / 2]? = some x := ⟨l[j / 2], by simp [hj']⟩
    obtain ⟨r1, r2, _⟩ := hread _ x hx
    obtain ⟨f1, f2⟩ := flat_at l.toArray (j / 2) x (by simpa using hx)
    refine ⟨?_, hfz _⟩
    rw [Nat.zero_add]
    simp only [World.cell?, hh, id]
    rcases Nat.mod_two_eq_zero_or_one j with e | e
    · rw [show j / 2 * 2 = j by omega] at r1 f1
      rw [f1]; simpa using r1
    · rw [show j / 2 * 2 + 1 = j by omega] at r2 f2
      rw [f2]; simpa using r2
  have hcall := hc b cap l.toArray w hH hlt (by simpa using hsz)
  rw [List.size_toArray] at hcall
  refine hcall.mono ?_
  rintro ex w' ⟨rfl, d', n, os, ⟨hp1, _, hp2⟩, hso, rfl⟩
  simp only [List.size_toArray] at hp1 hp2 hso
  have hext : ∀ (d : Array (Int × Int)), d.size = l.length → (d.extract 0 l.length).toList = d.toList := fun d hd => by rw [← hd]; simp
  rw [hext _ hp1, hext _ (by simp)] at hp2
  have hperm : d'.toList.Perm l := by simpa using hp2
  have hat : (sortWorldK encI 2 w b 0 n d' os).heap[b]? = some (.cells (putCells id 0 (flatK encI 2 d') vs) ty (0, 0)) := by
    unfold sortWorldK putRowK putRow mapBlock
    show ((w.heap.modify b (onCells (putCells id 0 (flatK encI 2 d')))) ++ os)[b]? = _
    rw [Array.getElem?_append, if_pos (by simpa using hlt), Array.getElem?_modify, if_pos rfl, hh]
    rfl
  have hoth : ∀ k, k < w.heap.size → k ≠ b → (sortWorldK encI 2 w b 0 n d' os).heap[k]? = w.heap[k]? := fun k hk hne => by
    unfold sortWorldK putRowK putRow mapBlock
    show ((w.heap.modify b (onCells (putCells id 0 (flatK encI 2 d')))) ++ os)[k]? = _
    rw [Array.getElem?_append, if_pos (by simpa using hk), Array.getElem?_modify, if_neg (fun e => hne e.symm)]
  have hsize : w.heap.size ≤ (sortWorldK encI 2 w b 0 n d' os).heap.size := by
    unfold sortWorldK putRowK putRow mapBlock
    show _ ≤ ((w.heap.modify b (onCells (putCells id 0 (flatK encI 2 d')))) ++ os).size
    simp
  have hll : d'.toList.length = l.length := hperm.length_eq
  have hput : ∀ t, (putCells id 0 (flatK encI 2 d') vs)[t]? = (vs[t]?).map fun x => if t < d'.size * 2 then (flatK encI 2 d')[t]! else x := fun t => by
    simp only [putCells, Array.getElem?_mapIdx, size_flatK, Nat.zero_le, true_and, Nat.zero_add, Nat.sub_zero, id]
  have hvs' : (putCells id 0 (flatK encI 2 d') vs).size = vs.size := by simp [putCells]
  rw [prs_len] at hle
  refine ⟨_, .tup [], g, σ.setBlk i (prs d'.toList), rfl, .tup (vs := []) rfl (by simp), ?_, Gh.le_refl g, ⟨hsize, fun k hk => hoth k (hr.pr k hk).1 (fun e => hs.pr (e ▸ hk))⟩, rfl, d'.toList, hperm, ?_, rfl⟩
  · refine hr.write hb hm hsize hoth ⟨rfl, rfl, rfl, hsize, fun k hk => hoth k (Nat.lt_of_lt_of_le hk hr.bs) (by have := hs.low; omega)⟩ hat (by rw [hvs', prs_len, hll]; exact hle) (fun t ht => by rw [hvs']; exact hrt t ht) ?_ (prs_ok _)
    refine prs_vrs _ _ (by rw [hvs', prs_len, hll]; exact hle) (fun q x hx => ?_)
    have hq : q < d'.size := by
      have := (List.getElem?_eq_some_iff.1 hx).1
      simpa using this
    obtain ⟨f1, f2⟩ := flat_at d' q x (by simpa using hx)
    have hx2 : has2 x := by
      have hmem : x ∈ l := hperm.mem_iff.1 (List.mem_of_getElem? hx)
      obtain ⟨p, hp⟩ := List.mem_iff_getElem?.1 hmem
      exact (hread p x hp).2.2
    have hd : d'.size = l.length := by simpa using hll
    have e1 : q * 2 < vs.size := by omega
    have e2 : q * 2 + 1 < vs.size := by omega
    rw [hput, hput, Array.getElem?_eq_getElem e1, Array.getElem?_eq_getElem e2, Option.map_some, Option.map_some, if_pos (by omega), if_pos (by omega), f1, f2]
    exact ⟨rfl, rfl, hx2⟩
  · rw [List.pairwise_iff_getElem]
    intro p q hp hq hpq
    have := hso p q (Nat.zero_le _) hpq (by simpa [hll] using hq)
    rw [cmpF_lt] at this
    simp only [decide_eq_false_iff_not, Int.not_lt] at this
    have ep : d'[p]! = d'.toList[p] := getB d' p _ (by simp [show p < d'.size by simpa using hp])
    have eq' : d'[q]! = d'.toList[q] := getB d' q _ (by simp [show q < d'.size by simpa using hq])
    rw [ep, eq'] at this
    exact this
end Go.Ab
