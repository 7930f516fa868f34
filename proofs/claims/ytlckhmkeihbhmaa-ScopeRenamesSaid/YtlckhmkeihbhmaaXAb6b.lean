/- Fields of values, slice expressions, comparisons with nil and of structs of integers. Conditions: none. -/
import Derived.Laws.StructEq
import Derived.Test.YtlckhmkeihbhmaaXAb5
set_option linter.unusedSimpArgs false
namespace Go.Ab
open Go.RowKit
variable {P : Program} {base N : Nat} {g : Gh} {Pr : Nat → Prop} {σ : Heap} {w0 w w' : World} {lam : Nat → Option Nat} {F : Fm} {L : Lm} {a : Act}
theorem fd_sound {s f off : Nat} {n : Option Nat} (ho : fOff P s f = some off) (hn : fldN P s f = some n) {p v : AV} {pvl : Value}
    (hp : SV g lam p pvl) (hv : fdA p off n = some v) : ∃ x, (Instr.field s pvl f).run P w = .ok x w ∧ VR g v x := by
  unfold fOff at ho
  unfold fldN at hn
  cases hu : P.underlying s with
  | none => rw [hu] at ho; cases ho
  | some d =>
    rw [hu] at ho hn
    cases d <;> try (cases ho; done)
    rename_i fs
    simp only [Option.bind_eq_some_iff] at ho hn
    obtain ⟨fd, hfd, m, hm, hoff⟩ := ho
    obtain ⟨fd', hfd', hld⟩ := hn
    rw [hfd] at hfd'; cases hfd'
    split at hoff
    · cases hoff
    cases hoff
    cases p <;> simp only [fdA] at hv <;> try (cases hv; done)
    rename_i cs
    cases hp with
    | @agg _ vs hl hc hr =>
      have hvs : VRs g cs vs := VRs.of_idx _ _ hl hr
      cases n with
      | none =>
        simp only [rdC, Option.bind_eq_some_iff] at hv
        obtain ⟨v0, hv, hcv⟩ := hv
        obtain ⟨rfl, _⟩ := cellV_some hcv
        obtain ⟨x, hx, hvr⟩ := hvs.at fd.offset _ hv
        exact ⟨x, by simp [Instr.field, run_under hu, hfd, asAgg, part, run_isAgg1 hld, hx], hvr⟩
      | some n =>
        simp only [rdC] at hv
        split at hv
        · rename_i hle
          cases hv
          obtain ⟨h1, h2⟩ := run_isAggN (w := w) hld
          have hrr := (hvs.drop fd.offset).take n
          refine ⟨.agg ((vs.drop fd.offset).take n).toArray, ?_, .agg (by simp [hl]) (fun c hcm => hc c (List.mem_of_mem_drop (List.mem_of_mem_take hcm))) (fun i c u hc hu => hrr.idx i c u hc hu)⟩
          have he : vs.toArray.extract fd.offset (fd.offset + n) = ((vs.drop fd.offset).take n).toArray := by
            apply Array.ext'
            simp [List.drop_take]
          simp [Instr.field, run_under hu, hfd, asAgg, part, h1, run_size h2, he]
        · cases hv
inductive SVo (g : Gh) (lam : Nat → Option Nat) : Option AV → Option Value → Prop
  | none : SVo g lam none none
  | some {x : AV} {v : Value} (h : SV g lam x v) : SVo g lam (some x) (some v)
theorem xoo_sound {y : Option Operand} {x : Option X} (hx : xoo y = some x) (h : FRel base g lam Pr N F L σ a w0 w) : SVo g lam (x.map (xv F)) (y.map a.eval) := by
  cases y with
  | none => simp only [xoo, Option.some.injEq] at hx; subst hx; exact .none
  | some y =>
    simp only [xoo, Option.map_eq_some_iff] at hx
    obtain ⟨z, hz, rfl⟩ := hx
    exact .some (xo_sound hz h)
theorem natA_sound {x : AV} {v : Value} {n : Nat} (h : natA x = some n) (hs : SV g lam x v) : ∃ k, v = .int k n := by
  unfold natA at h
  split at h
  · split at h
    · rename_i h0
      cases h
      cases hs with | d hd => cases hd; exact ⟨_, by rw [Int.toNat_of_nonneg h0]⟩
    · cases h
  · cases h
theorem bound_ok {n y : Nat} {k : IntKind} (h : n ≤ y) (c : BoundsCode) : (Instr.sliceBound (.int k n) y c).run P w = .ok n w := by
  have h1 : (0 : Int) ≤ (n : Int) ∧ (n : Int) ≤ (y : Int) := by omega
  simp [Instr.sliceBound, asIntOf, h1]
theorem bnd_sound {n cap l h : Nat} {lo hi : Option AV} {lov hiv : Option Value} (isS : Bool) (hlo : SVo g lam lo lov) (hhi : SVo g lam hi hiv) (hn : n ≤ cap) (hb : bndA n lo hi = some (l, h)) :
    (l ≤ h ∧ h ≤ n) ∧ (Instr.sliceBounds isS n cap lov hiv none).run P w = .ok (l, h, cap) w ∧ (∀ k, hiv.isSome = true → (Instr.sliceBounds isS n cap lov hiv (some (.int k (h : Int)))).run P w = .ok (l, h, h) w) := by
  unfold bndA at hb
  simp only [Option.bind_eq_some_iff] at hb
  obtain ⟨l', hl', h', hh', hb⟩ := hb
  split at hb
  case isFalse => cases hb
  rename_i hle
  cases hb
  refine ⟨hle, ?_⟩
  unfold Instr.sliceBounds
  cases hhi with
  | none =>
    simp only [Option.some.injEq] at hh'
    subst hh'
    cases hlo with
    | none => simp only [Option.some.injEq] at hl'; subst hl'; simp
    | some hs =>
      obtain ⟨k, rfl⟩ := natA_sound hl' hs
      simp [bound_ok hle.1]
  | some hs2 =>
    obtain ⟨k2, rfl⟩ := natA_sound hh' hs2
    cases hlo with
    | none => simp only [Option.some.injEq] at hl'; subst hl'; simp [bound_ok (Nat.le_trans hle.2 hn), bound_ok (Nat.le_refl h)]
    | some hs =>
      obtain ⟨k, rfl⟩ := natA_sound hl' hs
      simp [bound_ok hle.1, bound_ok (Nat.le_trans hle.2 hn), bound_ok (Nat.le_refl h)]
theorem bytes_extract (s : List UInt8) (l h : Nat) : (ByteArray.mk s.toArray).extract l h = ⟨((s.take h).drop l).toArray⟩ := by
  apply ByteArray.ext
  simp [ByteArray.data_extract]
  rw [List.drop_take]
theorem ssl_sound {t : TypeId} (ht : P.underlying t = some .string) {p : AV} {lo hi : Option AV} {pvl : Value} {lov hiv : Option Value} {v : AV} (hp : SV g lam p pvl) (hlo : SVo g lam lo lov) (hhi : SVo g lam hi hiv)
    (hv : sslA p lo hi = some v) : ∃ x, (Instr.sliceAt t pvl lov hiv none).run P w = .ok x w ∧ VR g v x := by
  unfold sslA at hv
  split at hv
  · rename_i s
    simp only [Option.map_eq_some_iff] at hv
    obtain ⟨⟨l, h⟩, hb, rfl⟩ := hv
    cases hp with | d hp => cases hp with | str hl =>
    obtain ⟨hle, hrun, _⟩ := bnd_sound (P := P) (w := w) (n := s.length) (cap := s.length) false hlo hhi (Nat.le_refl _) hb
    refine ⟨.string ⟨((s.take h).drop l).toArray⟩, ?_, .d (.str (by simp; omega))⟩
    simp [Instr.sliceAt, Instr.slice, run_under ht, bytes_size, hrun, bytes_extract]
  · cases hv
theorem sub_len (rows : List (List DV)) (l h : Nat) (hh : h ≤ rows.length) : ((rows.take h).drop l).length = h - l := by simp; omega
theorem RD.sub {im : Nat → Nat → Option Value} {rows : List (List DV)} {size l h m : Nat} {ad : Option Addr} {len cap : Nat} (hs : ∀ r ∈ rows, r.length = size) (hrd : RD im (.sl rows) (.slice ad len cap)) (hlh : l ≤ h) (hh : h ≤ rows.length)
    (hm1 : h ≤ m) (hm2 : m ≤ cap) : RD im (.sl ((rows.take h).drop l)) (.slice (if m = l then ad else ad.map (·.add (l * size))) (h - l) (m - l)) := by
  cases hrd with
  | nil hmx hn =>
    have : h = 0 := by simpa using hh
    subst this
    have : l = 0 := by omega
    subst this
    simp only [List.take_zero, List.drop_nil, Nat.sub_zero, Nat.zero_mul]
    refine .nil (by omega) (fun e => ?_)
    split at e
    · assumption
    · cases ad with
      | none => have := hn rfl; omega
      | some x => simp at e
  | @sl _ b off _ size' f hc hmx hs' hi hr =>
    by_cases h0 : h = l
    · subst h0
      have e : (rows.take h).drop h = [] := List.drop_eq_nil_of_le (by simp; omega)
      rw [e, Nat.sub_self]
      refine .nil (by omega) (fun e => ?_)
      split at e <;> simp at e
    · have hne : m ≠ l := by omega
      have hlen := sub_len rows l h hh
      have hsz : size' = size := by
        have h1 : 0 < rows.length := by omega
        rw [← hs' rows[0] (List.getElem_mem h1), hs rows[0] (List.getElem_mem h1)]
      subst hsz
      rw [if_neg hne]
      simp only [Option.map_some, Addr.add_lit]
      rw [← hlen]
      refine .sl (size := size') (f := fun i j => f (l + i) j) (by omega) (by omega) (fun r hr' => hs r (List.mem_of_mem_take (List.mem_of_mem_drop hr'))) (fun i j hi' hj => ?_) (fun i r j x hi' hj => ?_)
      · have := hi (l + i) j (by omega) hj
        rw [Nat.add_mul] at this
        rw [show off + l * size' + i * size' + j = off + (l * size' + i * size') + j by omega]; exact this
      · rw [List.getElem?_drop, List.getElem?_take] at hi'
        split at hi'
        · exact hr (l + i) r j x hi' hj
        · cases hi'
theorem AV.rows_sound {p : AV} {v : Value} {rows : List (List DV)} (hp : SV g lam p v) (hr : p.rows = some rows) : RD g.im (.sl rows) v := by
  cases p <;> simp only [AV.rows] at hr <;> try (cases hr; done)
  · rename_i x
    cases x <;> simp only [Option.some.injEq] at hr <;> try (cases hr; done)
    subst hr
    cases hp with | d h => exact h
  · cases hr; cases hp; exact .nil (Nat.zero_le _) (fun _ => rfl)
  · cases hr; cases hp with | own h _ _ => exact h
  · cases hr; cases hp with | clip h => exact h
theorem RD.uniform {im : Nat → Nat → Option Value} {rows : List (List DV)} {v : Value} (h : RD im (.sl rows) v) : ∃ size, ∀ r ∈ rows, r.length = size := by
  cases h with
  | nil => exact ⟨0, by simp⟩
  | sl _ _ hs _ _ => exact ⟨_, hs⟩
theorem RD.sub0 {im : Nat → Nat → Option Value} {rows : List (List DV)} {l h m size : Nat} {ad : Option Addr} {len cap : Nat} (hs : l = 0 ∨ ∀ r ∈ rows, r.length = size) (hrd : RD im (.sl rows) (.slice ad len cap)) (hlh : l ≤ h) (hh : h ≤ rows.length)
    (hm1 : h ≤ m) (hm2 : m ≤ cap) : RD im (.sl ((rows.take h).drop l)) (.slice (if m = l then ad else ad.map (·.add (l * size))) (h - l) (m - l)) := by
  rcases hs with h0 | hs
  · subst h0
    obtain ⟨size', hu⟩ := hrd.uniform
    have := RD.sub (size := size') hu hrd hlh hh hm1 hm2
    simpa using this
  · exact RD.sub hs hrd hlh hh hm1 hm2
theorem sls_sound {t e : TypeId} (ht : P.underlying t = some (.slice e)) {sz : Nat} (hsz : szT P e = some sz) {p : AV} {lo hi mx : Option AV} {pvl : Value} {lov hiv mxv : Option Value} {v : AV} (hp : SV g lam p pvl)
    (hlo : SVo g lam lo lov) (hhi : SVo g lam hi hiv) (hmx : SVo g lam mx mxv) (hv : slsA p lo hi mx sz = some v) :
    ∃ x, (Instr.sliceAt t pvl lov hiv mxv).run P w = .ok x w ∧ VR g v x := by
  unfold slsA at hv
  split at hv
  · rename_i h0
    split at hv
    · rename_i hn
      cases hv
      cases hlo; cases hmx
      cases hhi with
      | some hh =>
        obtain ⟨kk, rfl⟩ := natA_sound hn hh
        cases hp
        refine ⟨.slice none 0 0, ?_, .nils⟩
        have hb0 : (Instr.sliceBound (.int kk 0) 0 .sliceAcap).run P w = .ok 0 w := bound_ok (n := 0) (Nat.le_refl 0) _
        have hb1 : (Instr.sliceBounds true 0 0 none (some (.int kk 0)) none).run P w = .ok (0, 0, 0) w := by
          simp [Instr.sliceBounds, hb0]
        simp [Instr.sliceAt, Instr.slice, run_under ht, hb1, run_size hsz]
    · cases hv
  · rename_i i n s e1 l
    simp only [Option.bind_eq_some_iff] at hv
    obtain ⟨l', hl', hv⟩ := hv
    split at hv
    case isFalse => cases hv
    rename_i hcond
    obtain ⟨hln, rfl⟩ := hcond
    cases hv
    cases hhi; cases hmx
    cases hlo with
    | some hh =>
      obtain ⟨kk, rfl⟩ := natA_sound hl' hh
      cases hp with
      | @ms _ _ _ _ b cap hm hr hn hmx =>
        have hb1 : (Instr.sliceBounds true n cap (some (.int kk l')) none none).run P w = .ok (l', n, cap) w := by
          have h1 := bound_ok (P := P) (w := w) (k := kk) hln .sliceB
          simp [Instr.sliceBounds, h1]
        by_cases hc : cap = l'
        · refine ⟨.slice (some ⟨b, 0, none⟩) (n - l') (cap - l'), ?_, .mv hm hr (by omega) hmx (fun h => by omega)⟩
          subst hc
          simp [Instr.sliceAt, Instr.slice, run_under ht, hb1, run_size hsz]
        · refine ⟨.slice (some ⟨b, l' * s, none⟩) (n - l') (cap - l'), ?_, .mv hm hr (by omega) hmx (fun _ => rfl)⟩
          simp [Instr.sliceAt, Instr.slice, run_under ht, hb1, run_size hsz, hc, Addr.add_lit]
  · rename_i i n s e1 h
    simp only [Option.bind_eq_some_iff] at hv
    obtain ⟨h', hh', hv⟩ := hv
    split at hv
    case isFalse => cases hv
    rename_i hcond
    cases hv
    cases hlo; cases hmx
    cases hhi with
    | some hh =>
      obtain ⟨kk, rfl⟩ := natA_sound hh' hh
      cases hp with
      | @ms _ _ _ _ b cap hm hr hn hmx =>
        have hb1 : (Instr.sliceBounds true n cap none (some (.int kk h')) none).run P w = .ok (0, h', cap) w := by
          simp [Instr.sliceBounds, bound_ok (Nat.le_trans hcond hn)]
        exact ⟨.slice (some ⟨b, 0, none⟩) h' cap, by simp [Instr.sliceAt, Instr.slice, run_under ht, hb1, run_size hsz, Addr.add_lit], .ms hm hr (by omega) hmx⟩
  simp only [Option.bind_eq_some_iff] at hv
  obtain ⟨rows, hr, hv⟩ := hv
  unfold slsR at hv
  split at hv
  case isFalse => cases hv
  rename_i hchk
  simp only [Option.bind_eq_some_iff] at hv
  obtain ⟨⟨l, h⟩, hb, hv⟩ := hv
  have hrd := AV.rows_sound hp hr
  obtain ⟨ad, cap, rfl, hlm⟩ := hrd.sl_len
  have hcap : rows.length ≤ cap := by
    cases hrd with
    | nil => simp
    | sl hc _ _ _ _ => exact hc
  obtain ⟨hle, hrun, hrun3⟩ := bnd_sound (P := P) (w := w) (n := rows.length) (cap := cap) true hlo hhi hcap hb
  have hl0 : l = 0 ∨ ∀ r ∈ rows, r.length = sz := by
    simp only [Bool.or_eq_true] at hchk
    rcases hchk with h1 | h1
    · left
      cases hlo with
      | none =>
        unfold bndA at hb
        simp only [Option.bind_eq_some_iff, Option.some.injEq] at hb
        obtain ⟨l', hl', h', _, hb⟩ := hb
        split at hb
        · cases hb; exact hl'.symm
        · cases hb
      | some _ => cases h1
    · right
      intro r hr
      simp only [sizedR, List.all_eq_true, beq_iff_eq] at h1
      exact h1 r hr
  cases hmx with
  | none =>
    have hv : some (AV.d (.sl ((rows.take h).drop l))) = some v := by cases hi <;> exact hv
    cases hv
    exact ⟨_, by simp [Instr.sliceAt, Instr.slice, run_under ht, hrun, run_size hsz], .d (RD.sub0 hl0 hrd hle.1 hle.2 (Nat.le_trans hle.2 hcap) (Nat.le_refl _))⟩
  | some hms =>
    cases hhi with
    | none => cases hv
    | some hhs =>
      simp only at hv
      split at hv
      · rename_i hm
        cases hv
        obtain ⟨k, rfl⟩ := natA_sound hm hms
        have hb2 := hrun3 k rfl
        exact ⟨_, by simp [Instr.sliceAt, Instr.slice, run_under ht, hb2, run_size hsz], .clip (RD.sub0 hl0 hrd hle.1 hle.2 (Nat.le_refl _) (Nat.le_trans hle.2 hcap))⟩
      · cases hv
theorem run_equal_ptr {t e : TypeId} (ht : P.underlying t = some (.pointer e)) (q : Option Addr) : (Op.equal t (.pointer q) (.pointer none)).run P w = .ok q.isNone w := by
  have : ∀ d, (Op.equalIn (d + 1) t (.pointer q) (.pointer none)).run P w = .ok q.isNone w := fun d => by
    cases q <;> simp [Op.equalIn, run_under ht]
  exact this 9999
theorem pnil_sound {op : BinOp} {ne : Bool} {t e : TypeId} (ht : P.underlying t = some (.pointer e)) (hop : op = if ne then .neq else .eql) (y z : Operand) {p v : AV} {pvl : Value} (hp : SV g lam p pvl) (hv : pnilA ne p = some v) :
    ∃ x, ((do eqGuard op t y z pvl (.pointer none); binOp op t pvl (.pointer none) : Sem Value)).run P w = .ok x w ∧ SV g lam v x := by
  have key : ∀ (q : Option Addr), pvl = .pointer q → ((do eqGuard op t y z pvl (.pointer none); binOp op t pvl (.pointer none) : Sem Value)).run P w = .ok (.bool (if ne then !q.isNone else q.isNone)) w := by
    intro q hq
    subst hq hop
    have h1 := run_equal_ptr (P := P) (w := w) ht q
    have h2 : (eqGuard (if ne then .neq else .eql) t y z (.pointer q) (.pointer none)).run P w = .ok () w := by cases ne <;> simp [eqGuard]
    simp only [Sem.run_bind, h2, Result.andThen_ok]
    cases ne <;> simp [binOp, h1]
  cases p <;> simp only [pnilA] at hv <;> try (cases hv; done)
  · rename_i x
    cases x <;> simp only [Option.some.injEq] at hv <;> try (cases hv; done)
    · subst hv
      cases hp with | d hp => cases hp; exact ⟨_, key _ rfl, by cases ne <;> exact .d .bool⟩
    · subst hv
      cases hp with | d hp => cases hp; exact ⟨_, key _ rfl, by cases ne <;> exact .d .bool⟩
  · cases hv; obtain ⟨b, hb, rfl⟩ := hp; exact ⟨_, key _ rfl, by cases ne <;> exact .d .bool⟩
  · cases hv; cases hp; exact ⟨_, key _ rfl, by cases ne <;> exact .d .bool⟩
  · cases hv; cases hp; exact ⟨_, key _ rfl, by cases ne <;> exact .d .bool⟩
  · cases hv; cases hp; exact ⟨_, key _ rfl, by cases ne <;> exact .d .bool⟩
theorem eqFields_ints (d : Nat) : ∀ (fs : List Field) (o : Nat) (cs ds : List AV) (xs ys : List Value) (r : Bool),
    (fs.zipIdx o).all (fun (f, i) => f.offset == i && f.name != "_" && isIntT P f.type) = true →
    cs.length = fs.length → intsEq cs ds = some r → VRs g cs (xs.drop o) → VRs g ds (ys.drop o) → (Op.eqFields (d + 1) xs.toArray ys.toArray fs).run P w = .ok r w
  | [], o, cs, ds, xs, ys, r, _, hl, hi, _, _ => by
    have : cs = [] := List.eq_nil_of_length_eq_zero (by simpa using hl)
    subst this
    cases ds with
    | nil => simp only [intsEq, Option.some.injEq] at hi; subst hi; simp [Op.eqFields]
    | cons _ _ => cases hi
  | f :: fs, o, cs, ds, xs, ys, r, hf, hl, hi, hx, hy => by
    simp only [List.zipIdx_cons, List.all_cons, Bool.and_eq_true, beq_iff_eq, bne_iff_ne, ne_eq] at hf
    obtain ⟨⟨⟨ho, hn⟩, hint⟩, hrest⟩ := hf
    cases cs with
    | nil => simp at hl
    | cons c cs =>
      cases ds with
      | nil => cases c <;> simp [intsEq] at hi
      | cons c' ds =>
        have hc : ∃ k a b, c = .d (.int k a) ∧ c' = .d (.int k b) ∧ ∃ r', intsEq cs ds = some r' ∧ r = (a == b && r') := by
          cases c <;> try (simp [intsEq] at hi; done)
          rename_i x
          cases x <;> try (simp [intsEq] at hi; done)
          rename_i k a
          cases c' <;> try (simp [intsEq] at hi; done)
          rename_i y
          cases y <;> try (simp [intsEq] at hi; done)
          rename_i k' b
          simp only [intsEq] at hi
          split at hi
          · rename_i hk
            subst hk
            simp only [Option.map_eq_some_iff] at hi
            obtain ⟨r', hr', rfl⟩ := hi
            exact ⟨k, a, b, rfl, rfl, r', hr', rfl⟩
          · cases hi
        obtain ⟨k, a, b, rfl, rfl, r', hr', rfl⟩ := hc
        generalize hxd : xs.drop o = xd at hx
        generalize hyd : ys.drop o = yd at hy
        cases hx with
        | @cons _ vx _ vxs hvx hxs =>
          cases hy with
          | @cons _ vy _ vys hvy hys =>
            cases hvx with | d hvx => cases hvy with | d hvy => cases hvx with | int ha1 => cases hvy with | int hb1 =>
            have ex : xs.toArray[o]? = some (.int k a) := by
              have : (xs.drop o)[0]? = some (.int k a) := by rw [hxd]; rfl
              simpa using this
            have ey : ys.toArray[o]? = some (.int k b) := by
              have : (ys.drop o)[0]? = some (.int k b) := by rw [hyd]; rfl
              simpa using this
            have hu : ∃ k', P.underlying f.type = some (.int k') := by
              unfold isIntT at hint
              cases hud : P.underlying f.type with
              | none => rw [hud] at hint; cases hint
              | some dd => rw [hud] at hint; cases dd <;> first | exact ⟨_, rfl⟩ | cases hint
            obtain ⟨k', hu⟩ := hu
            have hagg : (isAgg f.type).run P w = .ok false w := by simp [isAgg, run_under hu]
            have ih := eqFields_ints d fs (o + 1) cs ds xs ys r' hrest (by simpa using hl) hr' (by rw [← List.drop_drop, hxd]; simpa using hxs) (by rw [← List.drop_drop, hyd]; simpa using hys)
            simp only [Op.eqFields, hn, ne_eq, not_false_eq_true, if_true, part, Sem.run_bind, hagg, Result.andThen_ok, Bool.false_eq_true, if_false, ho, ex, ey, Sem.run_pure, run_equalIn_int w d f.type k k' a b hu]
            cases hab : (a == b)
            · simp
            · simpa using ih
theorem steq_sound {op : BinOp} {ne : Bool} {t : TypeId} {fs : Array Field} (hu : P.underlying t = some (.struct fs)) (his : intStruct P t = true) (hop : op = if ne then .neq else .eql) (y z : Operand) {p q v : AV} {pvl qvl : Value}
    (hp : SV g lam p pvl) (hq : SV g lam q qvl) (hv : steqA ne fs.size p q = some v) :
    ∃ x, ((do eqGuard op t y z pvl qvl; binOp op t pvl qvl : Sem Value)).run P w = .ok x w ∧ SV g lam v x := by
  unfold steqA at hv
  split at hv
  case h_2 => cases hv
  rename_i l m
  split at hv
  case isFalse => cases hv
  rename_i hlen
  simp only [Option.map_eq_some_iff] at hv
  obtain ⟨r, hr, rfl⟩ := hv
  unfold intStruct at his
  rw [hu] at his
  simp only [Bool.and_eq_true, beq_iff_eq, Bool.not_eq_true'] at his
  obtain ⟨⟨⟨hall, hsz⟩, hst⟩, hgd⟩ := his
  cases hp with
  | @agg _ xs hl hc hx =>
    cases hq with
    | @agg _ ys hl' hc' hy =>
      have hxs : VRs g l xs := VRs.of_idx _ _ hl hx
      have hys : VRs g m ys := VRs.of_idx _ _ hl' hy
      have hfo : P.fieldsOf t = fs := by unfold Program.fieldsOf; rw [hu]
      have hrun : (Op.equalIn 10000 t (.agg xs.toArray) (.agg ys.toArray)).run P w = .ok r w := by
        have h1 := run_equalIn_struct (P := P) w 9999 t xs.toArray ys.toArray (by rw [hfo]; exact hu) hst
        rw [h1, hfo]
        exact eqFields_ints 9998 fs.toList 0 l m xs ys r hall (by simpa using hlen) hr (by simpa using hxs) (by simpa using hys)
      have hg : (eqGuard op t y z (.agg xs.toArray) (.agg ys.toArray)).run P w = .ok () w := run_eqGuard_agg w op t y z _ _ hgd
      refine ⟨.bool (if ne then !r else r), ?_, SV.of_vr (.d .bool)⟩
      simp only [Sem.run_bind, hg, Result.andThen_ok]
      subst hop
      have he : (Op.equal t (.agg xs.toArray) (.agg ys.toArray)).run P w = .ok r w := hrun
      cases ne <;> simp [binOp, he]
end Go.Ab
