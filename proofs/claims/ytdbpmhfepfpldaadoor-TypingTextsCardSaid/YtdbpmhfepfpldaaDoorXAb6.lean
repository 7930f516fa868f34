/- More operations that only yield a value. Conditions: none. -/
import Derived.Test.YtdbpmhfepfpldaaDoorXAb5
import Derived.Laws.Strings
set_option linter.unusedSimpArgs false
set_option linter.unusedVariables false
namespace Go.Ab
open Go.RowKit

variable {P : Program} {base N : Nat} {g : Gh} {Pr : Nat → Prop} {σ : Heap} {w0 w w' : World} {lam : Nat → Option Nat} {F : Fm} {L : Lm} {a : Act}

theorem fld_sound {s f off : Nat} (ho : fOff P s f = some off) {p v : AV} {pvl : Value} (hp : SV g lam p pvl) (hv : fldA p off = some v) :
    ∃ x, (Instr.fieldAt s pvl f).run P w = .ok x w ∧ SV g lam v x := by
  unfold fOff at ho
  cases hu : P.underlying s with
  | none => rw [hu] at ho; cases ho
  | some d =>
    rw [hu] at ho
    cases d <;> try (cases ho; done)
    rename_i fs
    simp only [Option.bind_eq_some_iff] at ho
    obtain ⟨fd, hfd, n, hn, hoff⟩ := ho
    split at hoff
    · cases hoff
    · rename_i hn0
      cases hoff
      have key : ∀ b o, (Instr.fieldAt s (.pointer (some ⟨b, o, none⟩)) f).run P w = .ok (.pointer (some ⟨b, o + fd.offset, none⟩)) w := by
        intro b o
        simp [Instr.fieldAt, run_under hu, hfd, Instr.sureAddr, fieldPlace, run_size hn, hn0, Addr.add_lit]
      cases p with
      | lp k o => obtain ⟨b, hb, rfl⟩ := hp; cases hv; exact ⟨_, key b o, b, hb, rfl⟩
      | gp i o => cases hv; cases hp with | gp hm => exact ⟨_, key _ o, .gp hm⟩
      | ep r o =>
        cases hv
        cases hp with
        | @ep _ _ b o2 ff hi hr =>
          refine ⟨_, key b (o2 + o), ?_⟩
          rw [Nat.add_assoc]
          exact VR.ep hi hr
      | d x =>
        cases x <;> simp only [fldA] at hv <;> try (cases hv; done)
        cases hv
        cases hp with
        | d hp => cases hp with
          | @ptr _ b o2 ff hi hr => exact ⟨_, key b o2, VR.ep hi hr⟩
      | _ => simp [fldA] at hv

theorem ixR_sound {rows : List (List DV)} {m : Int} {size : Nat} {v : AV} (hv : ixR rows m size = some v) {sv : Value} (hs : RD g.im (.sl rows) sv) :
    ∃ b off cap r, sv = .slice (some ⟨b, off, none⟩) rows.length cap ∧ 0 ≤ m ∧ m < rows.length ∧ rows[m.toNat]? = some r ∧ v = .ep r 0 ∧ VR g v (.pointer (some ⟨b, off + m.toNat * size, none⟩)) := by
  unfold ixR at hv
  split at hv
  · rename_i h0
    simp only [Option.bind_eq_some_iff] at hv
    obtain ⟨r, hr, hv⟩ := hv
    split at hv
    · rename_i hl
      cases hv
      have hlt := (List.getElem?_eq_some_iff.1 hr).1
      cases hs with
      | nil => simp at hr
      | @sl _ b off cap size' f hc hm hsz hi hrr =>
        have hsz' : size' = size := by rw [← hl]; exact (hsz r (List.mem_of_getElem? hr)).symm
        subst hsz'
        refine ⟨b, off, cap, r, rfl, h0, by omega, hr, rfl, ?_⟩
        exact VR.ep (o := off + m.toNat * size') (off := 0) (f := f m.toNat) (fun j hj => hi _ _ hlt (by omega)) (fun j x hx => hrr _ _ _ _ hr hx)
    · cases hv
  · cases hv

theorem ix_sound {t e size : Nat} (he : elemT P t = some e) (hsz : szT P e = some size) {p q v : AV} {pvl qvl : Value} (hp : SV g lam p pvl) (hq : SV g lam q qvl)
    (hv : ixA p q size = some v) : ∃ x, (Instr.indexAt t pvl qvl).run P w = .ok x w ∧ SV g lam v x := by
  have hu : P.underlying t = some (.slice e) := by
    unfold elemT at he
    split at he
    · rename_i e' hh; cases he; exact hh
    · cases he
  have key : ∀ (rows : List (List DV)) (k : IntKind) (m : Int), RD g.im (.sl rows) pvl → q = .d (.int k m) → ixR rows m size = some v → ∃ x, (Instr.indexAt t pvl qvl).run P w = .ok x w ∧ SV g lam v x := by
    intro rows k m hs hqe hr
    subst hqe
    cases hq with
    | d hd =>
      cases hd
      obtain ⟨b, off, cap, r, rfl, h0, h1, hrr, rfl, hvr⟩ := ixR_sound hr hs
      exact ⟨_, by simp [Instr.indexAt, asIntOf, run_under hu, run_size hsz, h0, h1, Addr.add_lit], SV.of_vr hvr⟩
  unfold ixA at hv
  split at hv
  · rename_i i n k m
    split at hv
    · rename_i hb
      cases hv
      cases hp with
      | @ms _ _ _ _ b cap hm hrm hn hmx =>
        cases hq with
        | d hd =>
          cases hd
          exact ⟨.pointer (some ⟨b, m.toNat * size, none⟩), by simp [Instr.indexAt, asIntOf, run_under hu, run_size hsz, hb.1, hb.2, Addr.add_lit], .gp hm⟩
    · cases hv
  · rename_i i o n s e1 k m
    split at hv
    · rename_i hb
      obtain ⟨hb, rfl⟩ := hb
      cases hv
      cases hp with
      | @mv _ _ _ _ _ b oa cap hm hrm hn hmx ho =>
        cases hq with
        | d hd =>
          cases hd
          have hoo := ho (by omega)
          subst hoo
          exact ⟨.pointer (some ⟨b, (o + m.toNat) * s, none⟩), by simp [Instr.indexAt, asIntOf, run_under hu, run_size hsz, hb.1, hb.2, Addr.add_lit, Nat.add_mul], .gp hm⟩
    · cases hv
  · cases hp with | d hd => exact key _ _ _ hd rfl hv
  · cases hp with | own hd _ _ => exact key _ _ _ hd rfl hv
  · cases hp with | clip hd => exact key _ _ _ hd rfl hv
  · cases hv

theorem RD.sl_len {im : Nat → Nat → Option Value} {rows : List (List DV)} {v : Value} (h : RD im (.sl rows) v) : ∃ a cap, v = .slice a rows.length cap ∧ rows.length ≤ maxLen := by
  cases h with
  | nil => exact ⟨_, _, rfl, Nat.zero_le _⟩
  | sl hc hm _ _ _ => exact ⟨_, _, rfl, Nat.le_trans hc hm⟩

theorem has_len {n : Nat} (h : n ≤ maxLen) : IntKind.i64.has n := by
  simp only [maxLen] at h
  unfold IntKind.has IntKind.min IntKind.max IntKind.signed IntKind.bits
  simp; omega


theorem len_sound {t e : TypeId} (ht : P.underlying t = some (.slice e)) {p v : AV} {pvl : Value} (hty : TypeId) (hp : SV g lam p pvl) (hv : lenA p = some v) :
    ∃ x, (Builtin.len_ #[t] hty #[pvl]).run P w = .ok x w ∧ SV g lam v x := by
  have key : ∀ rows : List (List DV), RD g.im (.sl rows) pvl → v = .d (.int .i64 rows.length) → ∃ x, (Builtin.len_ #[t] hty #[pvl]).run P w = .ok x w ∧ SV g lam v x := by
    intro rows hr he
    subst he
    obtain ⟨a, cap, rfl, hl⟩ := hr.sl_len
    exact ⟨_, by simp [Builtin.len_, run_under ht, goInt], .d (.int (has_len hl))⟩
  cases p with
  | d x => cases x with
    | sl rows => simp only [lenA, Option.some.injEq] at hv; cases hp with | d h => exact key rows h hv.symm
    | _ => cases hv
  | nils => cases hv; cases hp; exact ⟨_, by simp [Builtin.len_, run_under ht, goInt], .d (.int (has_len (Nat.zero_le _)))⟩
  | own t' e' s' rows => simp only [lenA, Option.some.injEq] at hv; cases hp with | own h _ _ => exact key rows h hv.symm
  | clip rows => simp only [lenA, Option.some.injEq] at hv; cases hp with | clip h => exact key rows h hv.symm
  | mv i o n s e => simp only [lenA, Option.some.injEq] at hv; subst hv; cases hp with | mv h hr hn hm ho => exact ⟨_, by simp [Builtin.len_, run_under ht, goInt], .d (.int (has_len (show n ≤ maxLen by omega)))⟩
  | ms i n s e => simp only [lenA, Option.some.injEq] at hv; subst hv; cases hp with | ms h hr hn hm => exact ⟨_, by simp [Builtin.len_, run_under ht, goInt], .d (.int (has_len (Nat.le_trans hn hm)))⟩
  | _ => cases hv

theorem slen_sound {t : TypeId} (ht : P.underlying t = some .string) {p v : AV} {pvl : Value} (hty : TypeId) (hp : SV g lam p pvl) (hv : slenA p = some v) :
    ∃ x, (Builtin.len_ #[t] hty #[pvl]).run P w = .ok x w ∧ SV g lam v x := by
  cases p with
  | d x => cases x with
    | str s =>
      simp only [slenA, Option.some.injEq] at hv; subst hv
      cases hp with
      | d h => cases h with
        | str hl =>
          have hs : (ByteArray.mk s.toArray).size = s.length := by show s.toArray.size = s.length; simp
          exact ⟨_, by simp [Builtin.len_, run_under ht, goInt, hs], .d (.int (has_len hl))⟩
    | _ => cases hv
  | _ => cases hv

theorem sidx_sound {t : TypeId} (ht : P.underlying t = some .string) {p q v : AV} {pvl qvl : Value} (hp : SV g lam p pvl) (hq : SV g lam q qvl) (hv : sidxA p q = some v) :
    ∃ x, (Instr.index t pvl qvl).run P w = .ok x w ∧ SV g lam v x := by
  unfold sidxA at hv
  split at hv
  · rename_i s k m
    split at hv
    · rename_i h0
      simp only [Option.map_eq_some_iff] at hv
      obtain ⟨b, hb, rfl⟩ := hv
      cases hp with
      | d h => cases h; cases hq with
        | d h => cases h; exact ⟨.int .u8 b.toNat, by
            have hlt := (List.getElem?_eq_some_iff.1 hb).1
            have : (ByteArray.mk s.toArray)[m.toNat]? = some b := by
              have h1 : m.toNat < (ByteArray.mk s.toArray).size := by simpa [ByteArray.size] using hlt
              rw [getElem?_pos (ByteArray.mk s.toArray) m.toNat h1]
              have h2 := (List.getElem?_eq_some_iff.1 hb).2
              show some (s.toArray[m.toNat]'_) = some b
              simp [h2]
            simp [Instr.index, asIntOf, run_under ht, h0, this], .d (.int (by
              have := b.toNat_lt
              unfold IntKind.has IntKind.min IntKind.max IntKind.signed IntKind.bits; simp; omega))⟩
    · cases hv
  · cases hv

theorem has_wrap (k : IntKind) (n : Int) : k.has (k.wrap n) := by
  unfold IntKind.has IntKind.wrap IntKind.min IntKind.max
  cases k <;> simp [IntKind.signed, IntKind.bits] <;> (try split) <;> omega

theorem has_tmod {k : IntKind} {a b : Int} (ha : k.has a) : k.has (a.tmod b) := by
  unfold IntKind.has IntKind.min IntKind.max at *
  have h1 : 0 ≤ a → 0 ≤ a.tmod b ∧ a.tmod b ≤ a := fun h => ⟨Int.tmod_nonneg b h, by
    have : (a.tmod b).natAbs ≤ a.natAbs := by rw [Int.natAbs_tmod]; exact Nat.mod_le _ _
    have := Int.tmod_nonneg b h; omega⟩
  have h2 : a ≤ 0 → a ≤ a.tmod b ∧ a.tmod b ≤ 0 := fun h => by
    have h3 : (a.tmod b).natAbs ≤ a.natAbs := by rw [Int.natAbs_tmod]; exact Nat.mod_le _ _
    have h4 : a.tmod b = -((-a).tmod b) := by rw [Int.neg_tmod, Int.neg_neg]
    have h5 := Int.tmod_nonneg b (show 0 ≤ -a by omega)
    omega
  cases k <;> simp [IntKind.signed, IntKind.bits] at * <;> (rcases Int.le_total 0 a with h | h <;> first | (have := h1 h; omega) | (have := h2 h; omega))


theorem run_eqGuard_int {op : BinOp} {t : TypeId} (y z : Operand) (k k' : IntKind) (a b : Int) : (eqGuard op t y z (.int k a) (.int k' b)).run P w = .ok () w := by
  unfold eqGuard
  cases op <;> simp

theorem run_eqGuard_str {op : BinOp} {t : TypeId} (y z : Operand) (a b : ByteArray) : (eqGuard op t y z (.string a) (.string b)).run P w = .ok () w := by
  unfold eqGuard
  cases op <;> simp

theorem run_eqGuard_bool {op : BinOp} {t : TypeId} (y z : Operand) (a b : Bool) : (eqGuard op t y z (.bool a) (.bool b)).run P w = .ok () w := by
  unfold eqGuard
  cases op <;> simp


theorem int_sound {op : BinOp} {t : TypeId} {k : IntKind} {a b : Int} {v : AV} (ha : k.has a) (hv : intA op k a b = some v) :
    ∃ x, (binOp op t (.int k a) (.int k b)).run P w = .ok x w ∧ VR g v x := by
  cases op <;> simp only [intA] at hv <;> try (cases hv; done)
  case add => cases hv; exact ⟨_, by simp [binOp, Op.intArith], .d (.int (has_wrap _ _))⟩
  case sub => cases hv; exact ⟨_, by simp [binOp, Op.intArith], .d (.int (has_wrap _ _))⟩
  case mul => cases hv; exact ⟨_, by simp [binOp, Op.intArith], .d (.int (has_wrap _ _))⟩
  case quo =>
    split at hv
    · cases hv
    · rename_i hb; cases hv; exact ⟨_, by simp [binOp, Op.intDiv, hb], .d (.int (has_wrap _ _))⟩
  case rem =>
    split at hv
    · cases hv
    · rename_i hb; cases hv; exact ⟨_, by simp [binOp, Op.intDiv, hb], .d (.int (has_tmod ha))⟩
  all_goals (cases hv; exact ⟨_, by simp [binOp, Op.intCmp], .d .bool⟩)

theorem bytes_toList (s : List UInt8) : (ByteArray.mk s.toArray).toList = s := by
  rw [ByteArray.toList_eq]

theorem bytes_size (s : List UInt8) : (ByteArray.mk s.toArray).size = s.length := by show s.toArray.size = s.length; simp

theorem bytes_append (s t : List UInt8) : ByteArray.mk s.toArray ++ ByteArray.mk t.toArray = ByteArray.mk (s ++ t).toArray := by
  apply ByteArray.ext
  simp [ByteArray.data_append]

theorem str_sound {op : BinOp} {t : TypeId} {s u : List UInt8} {v : AV} (hv : strA op s u = some v) :
    ∃ x, (binOp op t (.string ⟨s.toArray⟩) (.string ⟨u.toArray⟩)).run P w = .ok x w ∧ VR g v x := by
  cases op <;> simp only [strA] at hv <;> try (cases hv; done)
  case add =>
    split at hv
    · rename_i hl
      cases hv
      refine ⟨.string ⟨(s ++ u).toArray⟩, ?_, .d (.str (by simpa using hl))⟩
      have h2 : (s.length : Int) + (u.length : Int) ≤ 9223372036854775807 := by
        simp only [maxLen] at hl; omega
      simp [binOp, Op.stringOp, bytes_size, bytes_append, h2]
    · cases hv
  all_goals (cases hv; exact ⟨_, by simp only [binOp, Op.stringOp, bytes_toList]; rfl, .d .bool⟩)

theorem bin_sound {op : BinOp} {t : TypeId} (y z : Operand) {p q v : AV} {pvl qvl : Value} (hp : SV g lam p pvl) (hq : SV g lam q qvl) (hv : binA op p q = some v) :
    ∃ x, ((do eqGuard op t y z pvl qvl; binOp op t pvl qvl : Sem Value)).run P w = .ok x w ∧ SV g lam v x := by
  unfold binA at hv
  split at hv
  · rename_i k a k' b
    split at hv
    · rename_i hk
      subst hk
      cases hp with | d hp => cases hq with | d hq => cases hp with | int ha => cases hq with | int hb =>
      obtain ⟨x, hx, hr⟩ := int_sound (P := P) (w := w) (g := g) (t := t) ha hv
      exact ⟨x, by simp only [Sem.run_bind, run_eqGuard_int, Result.andThen_ok]; exact hx, SV.of_vr hr⟩
    · cases hv
  · cases hp with | d hp => cases hq with | d hq => cases hp with | str ha => cases hq with | str hb =>
    obtain ⟨x, hx, hr⟩ := str_sound (P := P) (w := w) (g := g) (t := t) hv
    exact ⟨x, by simp only [Sem.run_bind, run_eqGuard_str, Result.andThen_ok]; exact hx, SV.of_vr hr⟩
  · cases hv

theorem run_equalIn_bool (d : Nat) {t : TypeId} (ht : P.underlying t = some .bool) (a b : Bool) : (Op.equalIn (d + 1) t (.bool a) (.bool b)).run P w = .ok (a == b) w := by
  simp [Op.equalIn, run_under ht]

theorem run_equal_bool {t : TypeId} (ht : P.underlying t = some .bool) (a b : Bool) : (Op.equal t (.bool a) (.bool b)).run P w = .ok (a == b) w :=
  run_equalIn_bool 9999 ht a b

theorem binb_sound {op : BinOp} {t : TypeId} (ht : P.underlying t = some .bool) (y z : Operand) {p q v : AV} {pvl qvl : Value} (hp : SV g lam p pvl) (hq : SV g lam q qvl) (hv : binbA op p q = some v) :
    ∃ x, ((do eqGuard op t y z pvl qvl; binOp op t pvl qvl : Sem Value)).run P w = .ok x w ∧ SV g lam v x := by
  unfold binbA at hv
  split at hv
  · cases hv; cases hp with | d hp => cases hq with | d hq => cases hp; cases hq; exact ⟨_, by simp only [Sem.run_bind, run_eqGuard_bool, Result.andThen_ok]; simp [binOp, run_equal_bool ht], .d .bool⟩
  · cases hv; cases hp with | d hp => cases hq with | d hq => cases hp; cases hq; exact ⟨_, by simp only [Sem.run_bind, run_eqGuard_bool, Result.andThen_ok]; simp [binOp, run_equal_bool ht], .d .bool⟩
  · cases hv

theorem un_sound {op : UnOp} {p v : AV} {pvl : Value} (hp : SV g lam p pvl) (hv : unA op p = some v) : ∃ x, (Op.unary op pvl).run P w = .ok x w ∧ SV g lam v x := by
  unfold unA at hv
  split at hv
  · cases hv; cases hp with | d hp => cases hp; exact ⟨_, by simp [Op.unary], .d .bool⟩
  · cases hv; cases hp with | d hp => cases hp; exact ⟨_, by simp [Op.unary, Op.intArith], .d (.int (has_wrap _ _))⟩
  · cases hv

theorem conv_sound {s t : TypeId} {k j : IntKind} (hs : P.underlying s = some (.int j)) (ht : P.underlying t = some (.int k)) {p v : AV} {pvl : Value} (hp : SV g lam p pvl) (hv : convA k p = some v) :
    ∃ x, (convert s t pvl).run P w = .ok x w ∧ SV g lam v x := by
  unfold convA at hv
  split at hv
  · cases hv; cases hp with | d hp => cases hp; exact ⟨_, by simp [convert, run_under hs, run_under ht, Conv.intToInt], .d (.int (has_wrap _ _))⟩
  · cases hv

theorem ext_sound {p v : AV} {i : Nat} {pvl : Value} (hp : SV g lam p pvl) (hv : extA p i = some v) : ∃ x, (Instr.extract pvl i).run P w = .ok x w ∧ VR g v x := by
  unfold extA at hv
  split at hv
  · simp only [Option.bind_eq_some_iff] at hv
    obtain ⟨v0, hv, hnv⟩ := hv
    obtain ⟨rfl, _⟩ := noLpV_some hnv
    cases hp with
    | @tup cs vs hl h =>
      have hlt := (List.getElem?_eq_some_iff.1 hv).1
      have hv' : vs[i]? = some (vs[i]'(by omega)) := by simp
      exact ⟨_, by simp [Instr.extract, hv'], h i _ _ hv hv'⟩
  · cases hv

theorem mm_sound {b : Bool} {p q v : AV} {pvl qvl : Value} (ts : Array TypeId) (ty : TypeId) (hp : SV g lam p pvl) (hq : SV g lam q qvl) (hv : mmA b p q = some v) :
    ∃ x, (if b then Builtin.max_ ts ty #[pvl, qvl] else Builtin.min_ ts ty #[pvl, qvl]).run P w = .ok x w ∧ SV g lam v x := by
  unfold mmA at hv
  split at hv
  · split at hv
    · rename_i hk
      subst hk
      cases hv
      cases hp with | d hp => cases hq with | d hq => cases hp with | int ha => cases hq with | int hb =>
      cases b
      · refine ⟨_, by simp [Builtin.min_, Builtin.min2], .d (.int ?_)⟩
        simp only [Bool.false_eq_true, if_false]; split <;> assumption
      · refine ⟨_, by simp [Builtin.max_, Builtin.max2], .d (.int ?_)⟩
        simp only [if_true]; split <;> assumption
    · cases hv
  · cases hv

end Go.Ab
