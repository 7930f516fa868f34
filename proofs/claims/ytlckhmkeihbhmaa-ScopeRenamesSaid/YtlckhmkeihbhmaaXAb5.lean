/- The operations that only yield a value: each does in the model what it does at the abstract level. More operations that only yield a value. Conditions: none. -/
import Derived.Laws.Strings
import Derived.Test.YtlckhmkeihbhmaaXAb3
set_option linter.unusedSimpArgs false
namespace Go.Ab
open Go.RowKit
variable {P : Program} {base N : Nat} {g : Gh} {Pr : Nat → Prop} {σ : Heap} {w0 w w' : World} {lam : Nat → Option Nat} {F : Fm} {L : Lm} {a : Act}
def VOp (P : Program) (o : Oper) (F : Fm) (L : Lm) (σ : Heap) (v : AV) : Prop :=
  ∀ (base : Nat) (g : Gh) (lam : Nat → Option Nat) (Pr : Nat → Prop) (N : Nat) (a : Act) (w0 w : World), FRel base g lam Pr N F L σ a w0 w →
    ∃ x g' w', (execOp a.eval o).run P w = .ok (.value x) w' ∧ g.le g' ∧ KP Pr w w' ∧ SV g' lam v x ∧ FRel base g' lam Pr N F L σ a w0 w'
theorem VOp.same {o : Oper} {v : AV}
    (h : ∀ (base : Nat) (g : Gh) (lam : Nat → Option Nat) (Pr : Nat → Prop) (N : Nat) (a : Act) (w0 w : World), FRel base g lam Pr N F L σ a w0 w →
      ∃ x, (execOp a.eval o).run P w = .ok (.value x) w ∧ SV g lam v x) : VOp P o F L σ v := by
  intro base g lam Pr N a w0 w hf
  obtain ⟨x, hr, hs⟩ := h base g lam Pr N a w0 w hf
  exact ⟨x, g, w, hr, Gh.le_refl g, KP.refl Pr w, hs, hf⟩
theorem cv_sound {v : Value} {x : AV} (h : cv v = some x) (g : Gh) : VR g x v := by
  unfold cv at h
  split at h
  · cases h; exact .d .bool
  · split at h
    · rename_i hk; cases h; exact .d (.int hk)
    · cases h
  · rename_i s
    split at h
    · rename_i hl; cases h
      have : (ByteArray.mk s.data.toList.toArray) = s := by cases s; simp
      have hh : VR g (.d (.str s.data.toList)) (.string ⟨s.data.toList.toArray⟩) := .d (.str hl)
      rwa [this] at hh
    · cases h
  · cases h; exact .nils
  · cases h; exact .nilp
  · cases h; exact .nilf
  · cases h
theorem cv_cell {v : Value} {x : AV} (h : cv v = some x) : x.isCell = true := by
  unfold cv at h
  split at h <;> first | (cases h; rfl) | (split at h <;> first | (cases h; rfl) | cases h) | cases h
theorem SV.mono {g g' : Gh} (hg : g.le g') {x : AV} {v : Value} (h : SV g lam x v) : SV g' lam x v := by
  cases x <;> first | exact VR.mono hg h | exact h
theorem xo_sound {y : Operand} {x : X} (hx : xo y = some x) (h : FRel base g lam Pr N F L σ a w0 w) : SV g lam (xv F x) (a.eval y) := by
  cases y with
  | tmp n => simp only [xo, Option.some.injEq] at hx; subst hx; exact h.tm n
  | const v =>
    simp only [xo, Option.some.injEq] at hx
    subst hx
    cases hc : cv v with
    | none => exact SV.of_vr (x := .undef) .undef
    | some c => exact SV.of_vr (cv_sound hc g)
  | func f =>
    simp only [xo, Option.some.injEq] at hx; subst hx
    exact VR.fn (fs := []) (cs := []) rfl rfl (by simp) (by simp)
  | global _ => cases hx
theorem run_under {t : TypeId} {d : TypeDesc} (h : P.underlying t = some d) : (underlying t).run P w = .ok d w := by
  simp [underlying, h]
theorem run_size {t : TypeId} {n : Nat} (h : szT P t = some n) : (sizeOf t).run P w = .ok n w := by
  simp only [szT, Option.map_eq_some_iff] at h
  obtain ⟨i, hi, rfl⟩ := h
  simp [sizeOf, typeInfo, hi]
theorem run_isAgg1 {t : TypeId} (h : ldN P t = some none) : (isAgg t).run P w = .ok false w := by
  unfold ldN at h
  cases hu : P.underlying t with
  | none => rw [hu] at h; cases h
  | some d =>
    rw [hu] at h
    cases d <;> first | (simp [isAgg, run_under hu]; done) | (exfalso; cases hs : szT P t <;> simp [hs] at h)
theorem run_isAggN {t : TypeId} {n : Nat} (h : ldN P t = some (some n)) : (isAgg t).run P w = .ok true w ∧ szT P t = some n := by
  unfold ldN at h
  cases hu : P.underlying t with
  | none => rw [hu] at h; cases h
  | some d =>
    rw [hu] at h
    cases d <;> simp at h <;> exact ⟨by simp [isAgg, run_under hu], h⟩
theorem load_sound {t : TypeId} {n : Option Nat} (ht : ldN P t = some n) {cs : List AV} {vs : List Value} {b off o : Nat} {v : AV} (hr : VRs g cs vs) (hc : cellsOk cs = true)
    (hcell : ∀ j u, vs[j]? = some u → w.cell? ⟨b, off + j, none⟩ = some u) (hv : rdC cs o n = some v) :
    ∃ x, (Instr.loadAt t (.pointer (some ⟨b, off + o, none⟩))).run P w = .ok x w ∧ VR g v x := by
  cases n with
  | none =>
    simp only [rdC, Option.bind_eq_some_iff] at hv
    obtain ⟨v0, hv, hcv⟩ := hv
    obtain ⟨rfl, _⟩ := cellV_some hcv
    obtain ⟨x, hx, hvr⟩ := hr.at o _ hv
    exact ⟨x, by simp [Instr.loadAt, Instr.sureAddr, loadVar, run_isAgg1 ht, hcell o x hx], hvr⟩
  | some n =>
    simp only [rdC] at hv
    split at hv
    · rename_i hle
      cases hv
      obtain ⟨h1, h2⟩ := run_isAggN (w := w) ht
      have hlen := hr.length
      have hrr := (hr.drop o).take n
      refine ⟨.agg ((vs.drop o).take n).toArray, ?_, .agg (by simp [hlen]) ?_ (fun i c u hc hu => hrr.idx i c u hc hu)⟩
      · have hl : ((vs.drop o).take n).length = n := by simp; omega
        have hload := run_loadCells_list (P := P) w ⟨b, off + o, none⟩ ((vs.drop o).take n) (fun j u hu => by
          rw [Addr.add_lit]
          rw [List.getElem?_take] at hu
          split at hu
          · rw [List.getElem?_drop] at hu
            rw [Nat.add_assoc]; exact hcell (o + j) u hu
          · cases hu)
        rw [hl] at hload
        simp [Instr.loadAt, Instr.sureAddr, loadVar, h1, run_size h2, hload]
      · intro c hcm
        have : c ∈ cs := List.mem_of_mem_drop (List.mem_of_mem_take hcm)
        simp only [cellsOk, List.all_eq_true] at hc
        exact hc c this
    · cases hv
theorem cell_row {b : Nat} {vs : Array Value} {ty : TypeId} {fr : Nat × Nat} (h : w.heap[b]? = some (.cells vs ty fr)) : ∀ j u, vs.toList[j]? = some u → w.cell? ⟨b, 0 + j, none⟩ = some u := by
  intro j u hu
  rw [Nat.zero_add, cell_of_row w b j vs ty fr h]
  simpa using hu
theorem cellsOk_map (r : List DV) : cellsOk (r.map AV.d) = true := by simp [cellsOk, AV.isCell]
theorem ld_sound {t : TypeId} {n : Option Nat} (ht : ldN P t = some n) (h : FRel base g lam Pr N F L σ a w0 w) {p : AV} {pvl : Value} (hp : SV g lam p pvl) {v : AV} (hv : ldA L σ p n = some v) :
    ∃ x, (Instr.loadAt t pvl).run P w = .ok x w ∧ VR g v x := by
  cases p with
  | lp k o =>
    obtain ⟨b, hb, rfl⟩ := hp
    simp only [ldA, Option.bind_eq_some_iff] at hv
    obtain ⟨cs, hcs, hv⟩ := hv
    obtain ⟨hok, b', vs, ty, hb', _, hheap, hrs⟩ := h.loc k cs hcs
    rw [hb] at hb'; cases hb'
    have := load_sound (P := P) (w := w) (off := 0) ht hrs hok (cell_row hheap) hv
    simpa using this
  | gp i o =>
    simp only [ldA, Option.bind_eq_some_iff] at hv
    obtain ⟨cs, hcs, hv⟩ := hv
    obtain ⟨b, hb, ho⟩ := h.rel.shr i cs hcs
    obtain ⟨vs, ty, hheap, _, _, hrs⟩ := ho.row
    cases hp with
    | gp hm =>
      rw [hb] at hm; cases hm
      have := load_sound (P := P) (w := w) (off := 0) ht hrs ho.ok (fun j u hu => cell_row hheap j u (by
        rw [List.getElem?_take] at hu
        split at hu
        · exact hu
        · cases hu)) hv
      simpa using this
  | d x =>
    cases x <;> simp only [ldA] at hv <;> try (cases hv; done)
    rename_i r
    cases hp with
    | d hp => cases hp with
      | @ptr _ b o2 f hi hr =>
        have hrs : VRs g (r.map AV.d) ((List.range r.length).map f) := by
          refine VRs.of_idx _ _ (by simp) fun i c u hc hu => ?_
          rw [List.getElem?_map, Option.map_eq_some_iff] at hc hu
          obtain ⟨x, hx, rfl⟩ := hc
          obtain ⟨j, hj, rfl⟩ := hu
          have hji : i = j := by
            rw [List.getElem?_range (by have := (List.getElem?_eq_some_iff.1 hx).1; omega)] at hj; simpa using hj
          subst hji
          exact .d (hr i x hx)
        exact load_sound (P := P) (w := w) (off := o2) (o := 0) ht hrs (cellsOk_map r) (fun j u hu => by
          rw [List.getElem?_map, Option.map_eq_some_iff] at hu
          obtain ⟨i, hi', rfl⟩ := hu
          have hlt : j < r.length := by
            rcases Nat.lt_or_ge j r.length with h1 | h1
            · exact h1
            · simp [h1] at hi'
          rw [List.getElem?_range hlt] at hi'; cases hi'
          exact h.rel.im _ _ _ (hi j hlt)) hv
  | ep r o =>
    cases hp with
    | @ep _ _ b o2 f hi hr =>
      have hrs : VRs g (r.map AV.d) ((List.range r.length).map f) := by
        refine VRs.of_idx _ _ (by simp) fun i c u hc hu => ?_
        rw [List.getElem?_map, Option.map_eq_some_iff] at hc hu
        obtain ⟨x, hx, rfl⟩ := hc
        obtain ⟨j, hj, rfl⟩ := hu
        have hji : i = j := by
          rw [List.getElem?_range (by have := (List.getElem?_eq_some_iff.1 hx).1; omega)] at hj; simpa using hj
        subst hji
        exact .d (hr i x hx)
      exact load_sound (P := P) (w := w) (off := o2) ht hrs (cellsOk_map r) (fun j u hu => by
        rw [List.getElem?_map, Option.map_eq_some_iff] at hu
        obtain ⟨i, hi', rfl⟩ := hu
        have hlt : j < r.length := by
          rcases Nat.lt_or_ge j r.length with h1 | h1
          · exact h1
          · simp [h1] at hi'
        rw [List.getElem?_range hlt] at hi'; cases hi'
        exact h.rel.im _ _ _ (hi j hlt)) hv
  | _ => simp [ldA] at hv
end Go.Ab

namespace Go.Ab
open Go.RowKit
variable {P : Program} {base N : Nat} {g : Gh} {Pr : Nat → Prop} {σ : Heap} {w0 w w' : World} {lam : Nat → Option Nat} {F : Fm} {L : Lm} {a : Act}
theorem fld_sound {s f off : Nat} (ho : fOff P s f = some off) {p v : AV} {pvl : Value} (hp : SV g lam p pvl) (hv : fldA p off = some v) :
    ∃ x, (Instr.fieldAt s pvl f).run P w = .ok x w ∧ SV g lam v x := by
  unfold fOff at ho
  cases hu : P.underlying s with
  | none => rw [hu] at ho; cases ho
  | some d =>
    rw [hu] at ho
    cases d <;> try (cases ho; done)
    rename_i fs
    simp only [Option.bind_eq_some_iff] at ho
    obtain ⟨fd, hfd, n, hn, hoff⟩ := ho
    split at hoff
    · cases hoff
    · rename_i hn0
      cases hoff
      have key : ∀ b o, (Instr.fieldAt s (.pointer (some ⟨b, o, none⟩)) f).run P w = .ok (.pointer (some ⟨b, o + fd.offset, none⟩)) w := by
        intro b o
        simp [Instr.fieldAt, run_under hu, hfd, Instr.sureAddr, fieldPlace, run_size hn, hn0, Addr.add_lit]
      cases p with
      | lp k o => obtain ⟨b, hb, rfl⟩ := hp; cases hv; exact ⟨_, key b o, b, hb, rfl⟩
      | gp i o => cases hv; cases hp with | gp hm => exact ⟨_, key _ o, .gp hm⟩
      | ep r o =>
        cases hv
        cases hp with
        | @ep _ _ b o2 ff hi hr =>
          refine ⟨_, key b (o2 + o), ?_⟩
          rw [Nat.add_assoc]
          exact VR.ep hi hr
      | d x =>
        cases x <;> simp only [fldA] at hv <;> try (cases hv; done)
        cases hv
        cases hp with
        | d hp => cases hp with
          | @ptr _ b o2 ff hi hr => exact ⟨_, key b o2, VR.ep hi hr⟩
      | _ => simp [fldA] at hv
theorem ixR_sound {rows : List (List DV)} {m : Int} {size : Nat} {v : AV} (hv : ixR rows m size = some v) {sv : Value} (hs : RD g.im (.sl rows) sv) :
    ∃ b off cap r, sv = .slice (some ⟨b, off, none⟩) rows.length cap ∧ 0 ≤ m ∧ m < rows.length ∧ rows[m.toNat]? = some r ∧ v = .ep r 0 ∧ VR g v (.pointer (some ⟨b, off + m.toNat * size, none⟩)) := by
  unfold ixR at hv
  split at hv
  · rename_i h0
    simp only [Option.bind_eq_some_iff] at hv
    obtain ⟨r, hr, hv⟩ := hv
    split at hv
    · rename_i hl
      cases hv
      have hlt := (List.getElem?_eq_some_iff.1 hr).1
      cases hs with
      | nil => simp at hr
      | @sl _ b off cap size' f hc hm hsz hi hrr =>
        have hsz' : size' = size := by rw [← hl]; exact (hsz r (List.mem_of_getElem? hr)).symm
        subst hsz'
        refine ⟨b, off, cap, r, rfl, h0, by omega, hr, rfl, ?_⟩
        exact VR.ep (o := off + m.toNat * size') (off := 0) (f := f m.toNat) (fun j hj => hi _ _ hlt (by omega)) (fun j x hx => hrr _ _ _ _ hr hx)
    · cases hv
  · cases hv
theorem ix_sound {t e size : Nat} (he : elemT P t = some e) (hsz : szT P e = some size) {p q v : AV} {pvl qvl : Value} (hp : SV g lam p pvl) (hq : SV g lam q qvl)
    (hv : ixA p q size = some v) : ∃ x, (Instr.indexAt t pvl qvl).run P w = .ok x w ∧ SV g lam v x := by
  have hu : P.underlying t = some (.slice e) := by
    unfold elemT at he
    split at he
    · rename_i e' hh; cases he; exact hh
    · cases he
  have key : ∀ (rows : List (List DV)) (k : IntKind) (m : Int), RD g.im (.sl rows) pvl → q = .d (.int k m) → ixR rows m size = some v → ∃ x, (Instr.indexAt t pvl qvl).run P w = .ok x w ∧ SV g lam v x := by
    intro rows k m hs hqe hr
    subst hqe
    cases hq with
    | d hd =>
      cases hd
      obtain ⟨b, off, cap, r, rfl, h0, h1, hrr, rfl, hvr⟩ := ixR_sound hr hs
      exact ⟨_, by simp [Instr.indexAt, asIntOf, run_under hu, run_size hsz, h0, h1, Addr.add_lit], SV.of_vr hvr⟩
  unfold ixA at hv
  split at hv
  · rename_i i n k m
    split at hv
    · rename_i hb
      cases hv
      cases hp with
      | @ms _ _ _ _ b cap hm hrm hn hmx =>
        cases hq with
        | d hd =>
          cases hd
          exact ⟨.pointer (some ⟨b, m.toNat * size, none⟩), by simp [Instr.indexAt, asIntOf, run_under hu, run_size hsz, hb.1, hb.2, Addr.add_lit], .gp hm⟩
    · cases hv
  · rename_i i o n s e1 k m
    split at hv
    · rename_i hb
      obtain ⟨hb, rfl⟩ := hb
      cases hv
      cases hp with
      | @mv _ _ _ _ _ b oa cap hm hrm hn hmx ho =>
        cases hq with
        | d hd =>
          cases hd
          have hoo := ho (by omega)
          subst hoo
          exact ⟨.pointer (some ⟨b, (o + m.toNat) * s, none⟩), by simp [Instr.indexAt, asIntOf, run_under hu, run_size hsz, hb.1, hb.2, Addr.add_lit, Nat.add_mul], .gp hm⟩
    · cases hv
  · cases hp with | d hd => exact key _ _ _ hd rfl hv
  · cases hp with | own hd _ _ => exact key _ _ _ hd rfl hv
  · cases hp with | clip hd => exact key _ _ _ hd rfl hv
  · cases hv
theorem RD.sl_len {im : Nat → Nat → Option Value} {rows : List (List DV)} {v : Value} (h : RD im (.sl rows) v) : ∃ a cap, v = .slice a rows.length cap ∧ rows.length ≤ maxLen := by
  cases h with
  | nil => exact ⟨_, _, rfl, Nat.zero_le _⟩
  | sl hc hm _ _ _ => exact ⟨_, _, rfl, Nat.le_trans hc hm⟩
theorem has_len {n : Nat} (h : n ≤ maxLen) : IntKind.i64.has n := by
  simp only [maxLen] at h
  unfold IntKind.has IntKind.min IntKind.max IntKind.signed IntKind.bits
  simp; omega
theorem len_sound {t e : TypeId} (ht : P.underlying t = some (.slice e)) {p v : AV} {pvl : Value} (hty : TypeId) (hp : SV g lam p pvl) (hv : lenA p = some v) :
    ∃ x, (Builtin.len_ #[t] hty #[pvl]).run P w = .ok x w ∧ SV g lam v x := by
  have key : ∀ rows : List (List DV), RD g.im (.sl rows) pvl → v = .d (.int .i64 rows.length) → ∃ x, (Builtin.len_ #[t] hty #[pvl]).run P w = .ok x w ∧ SV g lam v x := by
    intro rows hr he
    subst he
    obtain ⟨a, cap, rfl, hl⟩ := hr.sl_len
    exact ⟨_, by simp [Builtin.len_, run_under ht, goInt], .d (.int (has_len hl))⟩
  cases p with
  | d x => cases x with
    | sl rows => simp only [lenA, Option.some.injEq] at hv; cases hp with | d h => exact key rows h hv.symm
    | _ => cases hv
  | nils => cases hv; cases hp; exact ⟨_, by simp [Builtin.len_, run_under ht, goInt], .d (.int (has_len (Nat.zero_le _)))⟩
  | own t' e' s' rows => simp only [lenA, Option.some.injEq] at hv; cases hp with | own h _ _ => exact key rows h hv.symm
  | clip rows => simp only [lenA, Option.some.injEq] at hv; cases hp with | clip h => exact key rows h hv.symm
  | mv i o n s e => simp only [lenA, Option.some.injEq] at hv; subst hv; cases hp with | mv h hr hn hm ho => exact ⟨_, by simp [Builtin.len_, run_under ht, goInt], .d (.int (has_len (show n ≤ maxLen by omega)))⟩
  | ms i n s e => simp only [lenA, Option.some.injEq] at hv; subst hv; cases hp with | ms h hr hn hm => exact ⟨_, by simp [Builtin.len_, run_under ht, goInt], .d (.int (has_len (Nat.le_trans hn hm)))⟩
  | _ => cases hv
theorem slen_sound {t : TypeId} (ht : P.underlying t = some .string) {p v : AV} {pvl : Value} (hty : TypeId) (hp : SV g lam p pvl) (hv : slenA p = some v) :
    ∃ x, (Builtin.len_ #[t] hty #[pvl]).run P w = .ok x w ∧ SV g lam v x := by
  cases p with
  | d x => cases x with
    | str s =>
      simp only [slenA, Option.some.injEq] at hv; subst hv
      cases hp with
      | d h => cases h with
        | str hl =>
          have hs : (ByteArray.mk s.toArray).size = s.length := by show s.toArray.size = s.length; simp
          exact ⟨_, by simp [Builtin.len_, run_under ht, goInt, hs], .d (.int (has_len hl))⟩
    | _ => cases hv
  | _ => cases hv
theorem sidx_sound {t : TypeId} (ht : P.underlying t = some .string) {p q v : AV} {pvl qvl : Value} (hp : SV g lam p pvl) (hq : SV g lam q qvl) (hv : sidxA p q = some v) :
    ∃ x, (Instr.index t pvl qvl).run P w = .ok x w ∧ SV g lam v x := by
  unfold sidxA at hv
  split at hv
  · rename_i s k m
    split at hv
    · rename_i h0
      simp only [Option.map_eq_some_iff] at hv
      obtain ⟨b, hb, rfl⟩ := hv
      cases hp with
      | d h => cases h; cases hq with
        | d h => cases h; exact ⟨.int .u8 b.toNat, by
            have hlt := (List.getElem?_eq_some_iff.1 hb).1
            have : (ByteArray.mk s.toArray)[m.toNat]? = some b := by
              have h1 : m.toNat < (ByteArray.mk s.toArray).size := by simpa [ByteArray.size] using hlt
              rw [getElem?_pos (ByteArray.mk s.toArray) m.toNat h1]
              have h2 := (List.getElem?_eq_some_iff.1 hb).2
              show some (s.toArray[m.toNat]'_) = some b
              simp [h2]
            simp [Instr.index, asIntOf, run_under ht, h0, this], .d (.int (by
              have := b.toNat_lt
              unfold IntKind.has IntKind.min IntKind.max IntKind.signed IntKind.bits; simp; omega))⟩
    · cases hv
  · cases hv
theorem has_wrap (k : IntKind) (n : Int) : k.has (k.wrap n) := by
  unfold IntKind.has IntKind.wrap IntKind.min IntKind.max
  cases k <;> simp [IntKind.signed, IntKind.bits] <;> (try split) <;> omega
theorem has_tmod {k : IntKind} {a b : Int} (ha : k.has a) : k.has (a.tmod b) := by
  unfold IntKind.has IntKind.min IntKind.max at *
  have h1 : 0 ≤ a → 0 ≤ a.tmod b ∧ a.tmod b ≤ a := fun h => ⟨Int.tmod_nonneg b h, by
    have : (a.tmod b).natAbs ≤ a.natAbs := by rw [Int.natAbs_tmod]; exact Nat.mod_le _ _
    have := Int.tmod_nonneg b h; omega⟩
  have h2 : a ≤ 0 → a ≤ a.tmod b ∧ a.tmod b ≤ 0 := fun h => by
    have h3 : (a.tmod b).natAbs ≤ a.natAbs := by rw [Int.natAbs_tmod]; exact Nat.mod_le _ _
    have h4 : a.tmod b = -((-a).tmod b) := by rw [Int.neg_tmod, Int.neg_neg]
    have h5 := Int.tmod_nonneg b (show 0 ≤ -a by omega)
    omega
  cases k <;> simp [IntKind.signed, IntKind.bits] at * <;> (rcases Int.le_total 0 a with h | h <;> first | (have := h1 h; omega) | (have := h2 h; omega))
theorem run_eqGuard_int {op : BinOp} {t : TypeId} (y z : Operand) (k k' : IntKind) (a b : Int) : (eqGuard op t y z (.int k a) (.int k' b)).run P w = .ok () w := by
  unfold eqGuard
  cases op <;> simp
theorem run_eqGuard_str {op : BinOp} {t : TypeId} (y z : Operand) (a b : ByteArray) : (eqGuard op t y z (.string a) (.string b)).run P w = .ok () w := by
  unfold eqGuard
  cases op <;> simp
theorem run_eqGuard_bool {op : BinOp} {t : TypeId} (y z : Operand) (a b : Bool) : (eqGuard op t y z (.bool a) (.bool b)).run P w = .ok () w := by
  unfold eqGuard
  cases op <;> simp
theorem int_sound {op : BinOp} {t : TypeId} {k : IntKind} {a b : Int} {v : AV} (ha : k.has a) (hv : intA op k a b = some v) :
    ∃ x, (binOp op t (.int k a) (.int k b)).run P w = .ok x w ∧ VR g v x := by
  cases op <;> simp only [intA] at hv <;> try (cases hv; done)
  case add => cases hv; exact ⟨_, by simp [binOp, Op.intArith], .d (.int (has_wrap _ _))⟩
  case sub => cases hv; exact ⟨_, by simp [binOp, Op.intArith], .d (.int (has_wrap _ _))⟩
  case mul => cases hv; exact ⟨_, by simp [binOp, Op.intArith], .d (.int (has_wrap _ _))⟩
  case quo =>
    split at hv
    · cases hv
    · rename_i hb; cases hv; exact ⟨_, by simp [binOp, Op.intDiv, hb], .d (.int (has_wrap _ _))⟩
  case rem =>
    split at hv
    · cases hv
    · rename_i hb; cases hv; exact ⟨_, by simp [binOp, Op.intDiv, hb], .d (.int (has_tmod ha))⟩
  all_goals (cases hv; exact ⟨_, by simp [binOp, Op.intCmp], .d .bool⟩)
theorem bytes_toList (s : List UInt8) : (ByteArray.mk s.toArray).toList = s := by
  rw [ByteArray.toList_eq]
theorem bytes_size (s : List UInt8) : (ByteArray.mk s.toArray).size = s.length := by show s.toArray.size = s.length; simp
theorem bytes_append (s t : List UInt8) : ByteArray.mk s.toArray ++ ByteArray.mk t.toArray = ByteArray.mk (s ++ t).toArray := by
  apply ByteArray.ext
  simp [ByteArray.data_append]
theorem str_sound {op : BinOp} {t : TypeId} {s u : List UInt8} {v : AV} (hv : strA op s u = some v) :
    ∃ x, (binOp op t (.string ⟨s.toArray⟩) (.string ⟨u.toArray⟩)).run P w = .ok x w ∧ VR g v x := by
  cases op <;> simp only [strA] at hv <;> try (cases hv; done)
  case add =>
    split at hv
    · rename_i hl
      cases hv
      refine ⟨.string ⟨(s ++ u).toArray⟩, ?_, .d (.str (by simpa using hl))⟩
      have h2 : (s.length : Int) + (u.length : Int) ≤ 9223372036854775807 := by
        simp only [maxLen] at hl; omega
      simp [binOp, Op.stringOp, bytes_size, bytes_append, h2]
    · cases hv
  all_goals (cases hv; exact ⟨_, by simp only [binOp, Op.stringOp, bytes_toList]; rfl, .d .bool⟩)
theorem bin_sound {op : BinOp} {t : TypeId} (y z : Operand) {p q v : AV} {pvl qvl : Value} (hp : SV g lam p pvl) (hq : SV g lam q qvl) (hv : binA op p q = some v) :
    ∃ x, ((do eqGuard op t y z pvl qvl; binOp op t pvl qvl : Sem Value)).run P w = .ok x w ∧ SV g lam v x := by
  unfold binA at hv
  split at hv
  · rename_i k a k' b
    split at hv
    · rename_i hk
      subst hk
      cases hp with | d hp => cases hq with | d hq => cases hp with | int ha => cases hq with | int hb =>
      obtain ⟨x, hx, hr⟩ := int_sound (P := P) (w := w) (g := g) (t := t) ha hv
      exact ⟨x, by simp only [Sem.run_bind, run_eqGuard_int, Result.andThen_ok]; exact hx, SV.of_vr hr⟩
    · cases hv
  · cases hp with | d hp => cases hq with | d hq => cases hp with | str ha => cases hq with | str hb =>
    obtain ⟨x, hx, hr⟩ := str_sound (P := P) (w := w) (g := g) (t := t) hv
    exact ⟨x, by simp only [Sem.run_bind, run_eqGuard_str, Result.andThen_ok]; exact hx, SV.of_vr hr⟩
  · cases hv
theorem run_equalIn_bool (d : Nat) {t : TypeId} (ht : P.underlying t = some .bool) (a b : Bool) : (Op.equalIn (d + 1) t (.bool a) (.bool b)).run P w = .ok (a == b) w := by
  simp [Op.equalIn, run_under ht]
theorem run_equal_bool {t : TypeId} (ht : P.underlying t = some .bool) (a b : Bool) : (Op.equal t (.bool a) (.bool b)).run P w = .ok (a == b) w :=
  run_equalIn_bool 9999 ht a b
theorem binb_sound {op : BinOp} {t : TypeId} (ht : P.underlying t = some .bool) (y z : Operand) {p q v : AV} {pvl qvl : Value} (hp : SV g lam p pvl) (hq : SV g lam q qvl) (hv : binbA op p q = some v) :
    ∃ x, ((do eqGuard op t y z pvl qvl; binOp op t pvl qvl : Sem Value)).run P w = .ok x w ∧ SV g lam v x := by
  unfold binbA at hv
  split at hv
  · cases hv; cases hp with | d hp => cases hq with | d hq => cases hp; cases hq; exact ⟨_, by simp only [Sem.run_bind, run_eqGuard_bool, Result.andThen_ok]; simp [binOp, run_equal_bool ht], .d .bool⟩
  · cases hv; cases hp with | d hp => cases hq with | d hq => cases hp; cases hq; exact ⟨_, by simp only [Sem.run_bind, run_eqGuard_bool, Result.andThen_ok]; simp [binOp, run_equal_bool ht], .d .bool⟩
  · cases hv
theorem un_sound {op : UnOp} {p v : AV} {pvl : Value} (hp : SV g lam p pvl) (hv : unA op p = some v) : ∃ x, (Op.unary op pvl).run P w = .ok x w ∧ SV g lam v x := by
  unfold unA at hv
  split at hv
  · cases hv; cases hp with | d hp => cases hp; exact ⟨_, by simp [Op.unary], .d .bool⟩
  · cases hv; cases hp with | d hp => cases hp; exact ⟨_, by simp [Op.unary, Op.intArith], .d (.int (has_wrap _ _))⟩
  · cases hv
theorem conv_sound {s t : TypeId} {k j : IntKind} (hs : P.underlying s = some (.int j)) (ht : P.underlying t = some (.int k)) {p v : AV} {pvl : Value} (hp : SV g lam p pvl) (hv : convA k p = some v) :
    ∃ x, (convert s t pvl).run P w = .ok x w ∧ SV g lam v x := by
  unfold convA at hv
  split at hv
  · cases hv; cases hp with | d hp => cases hp; exact ⟨_, by simp [convert, run_under hs, run_under ht, Conv.intToInt], .d (.int (has_wrap _ _))⟩
  · cases hv
theorem ext_sound {p v : AV} {i : Nat} {pvl : Value} (hp : SV g lam p pvl) (hv : extA p i = some v) : ∃ x, (Instr.extract pvl i).run P w = .ok x w ∧ VR g v x := by
  unfold extA at hv
  split at hv
  · simp only [Option.bind_eq_some_iff] at hv
    obtain ⟨v0, hv, hnv⟩ := hv
    obtain ⟨rfl, _⟩ := noLpV_some hnv
    cases hp with
    | @tup cs vs hl h =>
      have hlt := (List.getElem?_eq_some_iff.1 hv).1
      have hv' : vs[i]? = some (vs[i]'(by omega)) := by simp
      exact ⟨_, by simp [Instr.extract, hv'], h i _ _ hv hv'⟩
  · cases hv
theorem mm_sound {b : Bool} {p q v : AV} {pvl qvl : Value} (ts : Array TypeId) (ty : TypeId) (hp : SV g lam p pvl) (hq : SV g lam q qvl) (hv : mmA b p q = some v) :
    ∃ x, (if b then Builtin.max_ ts ty #[pvl, qvl] else Builtin.min_ ts ty #[pvl, qvl]).run P w = .ok x w ∧ SV g lam v x := by
  unfold mmA at hv
  split at hv
  · split at hv
    · rename_i hk
      subst hk
      cases hv
      cases hp with | d hp => cases hq with | d hq => cases hp with | int ha => cases hq with | int hb =>
      cases b
      · refine ⟨_, by simp [Builtin.min_, Builtin.min2], .d (.int ?_)⟩
        simp only [Bool.false_eq_true, if_false]; split <;> assumption
      · refine ⟨_, by simp [Builtin.max_, Builtin.max2], .d (.int ?_)⟩
        simp only [if_true]; split <;> assumption
    · cases hv
  · cases hv
end Go.Ab
