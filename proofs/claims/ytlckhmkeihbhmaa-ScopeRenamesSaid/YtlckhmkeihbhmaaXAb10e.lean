/- Regions that draw their order, continued: new local variables may be laid first. Conditions: none. -/
import Derived.Test.YtlckhmkeihbhmaaXAb10c
set_option linter.unusedSimpArgs false
namespace Go.Ab
open Go.RowKit
variable {P : Program} {base N : Nat} {g g' : Gh} {Pr : Nat → Prop} {σ σ' : Heap} {w0 w w' : World} {lam : Nat → Option Nat} {F : Fm} {L : Lm} {a : Act} {K : Kont} {d : Nat} {z : List AV}
theorem VR.lpOf {x : AV} {v : Value} (h : VR g x v) (d : Nat) : x.lpOf d = false := by cases h <;> rfl
theorem noLp_lpOf {x : AV} (h : x.noLp = true) (d : Nat) : x.lpOf d = false := by cases x <;> first | rfl | (cases h; done)
theorem isCell_lpOf {x : AV} (h : x.isCell = true) (d : Nat) : x.lpOf d = false := by cases x <;> first | rfl | (cases h; done)
theorem ACalls.lpOf {f : FuncId} {args : List AV} {Q : AV → Heap → Prop} (h : ACalls P f args σ Q) (d : Nat) : ACalls P f args σ (fun v σ' => Q v σ' ∧ v.lpOf d = false) :=
  fun base g Pr w0 w vs hr hv => (h base g Pr w0 w vs hr hv).mono fun _ _ ⟨v, av, g', σ', a, b, c, d', e, q⟩ => ⟨v, av, g', σ', a, b, c, d', e, q, b.lpOf d⟩
def Off (d : Nat) (F : Fm) : Prop := ∀ s, (F s).lpOf d = false
theorem Off.putO (h : Off d F) {dst : Option Nat} {v : AV} (hv : v.lpOf d = false) : Off d (putO dst v F) := by
  intro s
  cases dst with
  | none => exact h s
  | some k =>
    simp only [Ab.putO, Ab.put]
    split
    · exact hv
    · exact h s
theorem Off.purge (h : Off d F) (k : Nat) : Off d (purge k F) := by
  intro s
  simp only [Ab.purge]
  split
  · rfl
  · exact h s
theorem off_purge (d : Nat) (F : Fm) : Off d (purge d F) := by
  intro s
  simp only [purge]
  split
  · rfl
  · rename_i h; simpa using h
def cOk : X → Bool
  | .t _ => true
  | .c v => v.noLp
theorem xv_off (h : Off d F) {x : X} (hx : cOk x = true) : (xv F x).lpOf d = false := by
  cases x with
  | t n => exact h n
  | c v => exact noLp_lpOf hx d
def constOk : O → Bool
  | .mv x | .fld x _ | .ld x _ | .ldl x _ | .nck x => cOk x
  | .pick _ x y => cOk x && cOk y
  | .st x _ _ => cOk x
  | _ => true
theorem putL_ne {k : Nat} (h : k ≠ d) (z : List AV) (L : Lm) : putL d z L k = L k := by simp [putL, h]
theorem ldA_off {p : AV} (hp : p.lpOf d = false) (n : Option Nat) : ldA (putL d z L) σ p n = ldA L σ p n := by
  cases p <;> try rfl
  · rename_i dx; cases dx <;> rfl
  rename_i k o
  have : k ≠ d := by simpa [AV.lpOf] using hp
  simp [ldA, putL_ne this]
theorem ldlA_off {p : AV} (hp : p.lpOf d = false) (n : Option Nat) : ldlA (putL d z L) p n = ldlA L p n := by
  cases p <;> try rfl
  rename_i k o
  have : k ≠ d := by simpa [AV.lpOf] using hp
  simp [ldlA, putL_ne this]
theorem pv_off (h : Off d F) {o : O} (hc : constOk o = true) : pv F (putL d z L) σ o = pv F L σ o := by
  cases o <;> try rfl
  case ld x n => exact ldA_off (xv_off h hc) n
  case ldl x n => exact ldlA_off (xv_off h hc) n
theorem rdC_off {cs : List AV} {o : Nat} {n : Option Nat} {v : AV} (h : rdC cs o n = some v) : v.lpOf d = false := by
  cases n with
  | none =>
    simp only [rdC, Option.bind_eq_some_iff] at h
    obtain ⟨v0, _, h⟩ := h
    obtain ⟨rfl, hc⟩ := cellV_some h
    exact isCell_lpOf hc d
  | some n =>
    simp only [rdC] at h
    split at h
    · cases h; rfl
    · cases h
theorem intA_off {op : BinOp} {k : IntKind} {x y : Int} {v : AV} (h : intA op k x y = some v) : v.lpOf d = false := by
  unfold intA at h
  split at h <;> first | (cases h; rfl) | (split at h <;> first | (cases h; done) | (cases h; rfl)) | (cases h; done)
theorem strA_off {op : BinOp} {x y : List UInt8} {v : AV} (h : strA op x y = some v) : v.lpOf d = false := by
  unfold strA at h
  split at h <;> first | (cases h; rfl) | (split at h <;> first | (cases h; done) | (cases h; rfl)) | (cases h; done)
theorem mmA_off {b : Bool} {x y v : AV} (h : mmA b x y = some v) : v.lpOf d = false := by
  unfold mmA at h
  split at h
  · split at h
    · cases h; rfl
    · cases h
  · cases h
theorem ixR_off {rows : List (List DV)} {m : Int} {n : Nat} {v : AV} (h : ixR rows m n = some v) : v.lpOf d = false := by
  unfold ixR at h
  split at h
  · simp only [Option.bind_eq_some_iff] at h
    obtain ⟨r, _, h⟩ := h
    split at h
    · cases h; rfl
    · cases h
  · cases h
theorem exA_off {k : EK} {args : List AV} {v : AV} (h : exP k args = some v) : v.lpOf d = false := by
  obtain ⟨_, h⟩ := exP_inv h
  unfold exVal at h
  split at h
  · cases h; rfl
  · simp only [Option.map_eq_some_iff] at h; obtain ⟨_, _, rfl⟩ := h; rfl
  · simp only [Option.map_eq_some_iff] at h; obtain ⟨_, _, rfl⟩ := h; rfl
  · cases h
theorem pv_lpOf (h : Off d F) {o : O} (hc : constOk o = true) {v : AV} (hv : pv F L σ o = some v) : v.lpOf d = false := by
  cases o <;> simp only [pv] at hv <;> try (cases hv; done)
  case mv x => cases hv; exact xv_off h hc
  case ex k xs => exact exA_off hv
  case pick c x y =>
    simp only [constOk, Bool.and_eq_true] at hc
    unfold pickA at hv
    split at hv
    · cases hv; split
      · exact xv_off h hc.1
      · exact xv_off h hc.2
    · cases hv
  case fld x off =>
    have hx := xv_off h hc
    generalize xv F x = p at hv hx
    cases p <;> simp only [fldA] at hv <;> try (cases hv; done)
    · rename_i dx; cases dx <;> simp only at hv <;> first | (cases hv; done) | (cases hv; rfl)
    · cases hv; exact hx
    · cases hv; rfl
    · cases hv; rfl
  case ld x n =>
    generalize xv F x = p at hv
    cases p <;> simp only [ldA] at hv <;> try (cases hv; done)
    · rename_i dx; cases dx <;> simp only at hv <;> first | (cases hv; done) | exact rdC_off hv
    · simp only [Option.bind_eq_some_iff] at hv; obtain ⟨_, _, hv⟩ := hv; exact rdC_off hv
    · simp only [Option.bind_eq_some_iff] at hv; obtain ⟨_, _, hv⟩ := hv; exact rdC_off hv
    · exact rdC_off hv
  case ldl x n =>
    generalize xv F x = p at hv
    cases p <;> simp only [ldlA] at hv <;> try (cases hv; done)
    simp only [Option.bind_eq_some_iff] at hv; obtain ⟨_, _, hv⟩ := hv; exact rdC_off hv
  case ix x i n =>
    unfold ixA at hv
    split at hv
    · split at hv
      · cases hv; rfl
      · cases hv
    · split at hv
      · cases hv; rfl
      · cases hv
    · exact ixR_off hv
    · exact ixR_off hv
    · exact ixR_off hv
    · cases hv
  case sidx x i =>
    unfold sidxA at hv
    split at hv
    · split at hv
      · simp only [Option.map_eq_some_iff] at hv; obtain ⟨_, _, rfl⟩ := hv; rfl
      · cases hv
    · cases hv
  case len x =>
    unfold lenA at hv
    split at hv <;> first | (cases hv; rfl) | (cases hv; done)
  case slen x =>
    unfold slenA at hv
    split at hv <;> first | (cases hv; rfl) | (cases hv; done)
  case bin op x y =>
    unfold binA at hv
    split at hv
    · split at hv
      · exact intA_off hv
      · cases hv
    · exact strA_off hv
    · cases hv
  case binb op x y =>
    unfold binbA at hv
    split at hv <;> first | (cases hv; rfl) | (cases hv; done)
  case un op x =>
    unfold unA at hv
    split at hv <;> first | (cases hv; rfl) | (cases hv; done)
  case conv k x =>
    unfold convA at hv
    split at hv <;> first | (cases hv; rfl) | (cases hv; done)
  case bld z ps => simp only [Option.map_eq_some_iff] at hv; obtain ⟨_, _, rfl⟩ := hv; rfl
  case bsl s n z ps => simp only [Option.map_eq_some_iff] at hv; obtain ⟨_, _, rfl⟩ := hv; rfl
  case mkf f x y =>
    split at hv
    · cases hv; rfl
    · cases hv
  case ext x i =>
    unfold extA at hv
    split at hv
    · simp only [Option.bind_eq_some_iff] at hv
      obtain ⟨v0, _, hv⟩ := hv
      obtain ⟨rfl, hn⟩ := noLpV_some hv
      exact noLp_lpOf hn d
    · cases hv
  case nck x =>
    have hx := xv_off h hc
    generalize xv F x = p at hv hx
    cases p <;> simp only [nckA] at hv <;> try (cases hv; done)
    · rename_i dx; cases dx <;> simp only at hv <;> first | (cases hv; done) | (cases hv; rfl)
    · cases hv; exact hx
    · cases hv; rfl
    · cases hv; rfl
  case mm b x y => exact mmA_off hv
  case fd x off n =>
    generalize xv F x = p at hv
    cases p <;> simp only [fdA] at hv <;> try (cases hv; done)
    exact rdC_off hv
  case ssl x lo hi =>
    unfold sslA at hv
    split at hv
    · simp only [Option.map_eq_some_iff] at hv; obtain ⟨_, _, rfl⟩ := hv; rfl
    · cases hv
  case sls x lo hi mx n =>
    unfold slsA at hv
    split at hv
    · split at hv
      · cases hv; rfl
      · cases hv
    · simp only [Option.bind_eq_some_iff] at hv
      obtain ⟨_, _, hv⟩ := hv
      split at hv
      · cases hv; rfl
      · cases hv
    · simp only [Option.bind_eq_some_iff] at hv
      obtain ⟨_, _, hv⟩ := hv
      split at hv
      · cases hv; rfl
      · cases hv
    simp only [Option.bind_eq_some_iff] at hv
    obtain ⟨rows, _, hv⟩ := hv
    unfold slsR at hv
    split at hv
    · simp only [Option.bind_eq_some_iff] at hv
      obtain ⟨b, _, hv⟩ := hv
      split at hv
      · cases hv; rfl
      · split at hv
        · cases hv; rfl
        · cases hv
      · cases hv
    · cases hv
  case pnil ne x =>
    unfold pnilA at hv
    split at hv <;> first | (cases hv; rfl) | (cases hv; done)
  case steq ne n x y =>
    unfold steqA at hv
    split at hv
    · split at hv
      · simp only [Option.map_eq_some_iff] at hv; obtain ⟨_, _, rfl⟩ := hv; rfl
      · cases hv
    · cases hv
  case mm3 b x y z =>
    simp only [Option.bind_eq_some_iff] at hv
    obtain ⟨_, _, hv⟩ := hv
    exact mmA_off hv
  case boxi x => simp only [Option.map_eq_some_iff] at hv; obtain ⟨_, _, rfl⟩ := hv; rfl
theorem put_putO {dst : Option Nat} (h : dst ≠ some d) (v x : AV) (F : Fm) : putO dst v (put d x F) = put d x (putO dst v F) :=
  putO_comm (d := dst) (e := some d) (fun k hk he => h (by rw [hk, he])) v x F
theorem purge_putlp {k : Nat} (h : d ≠ k) (F : Fm) : purge k (put d (.lp d 0) F) = put d (.lp d 0) (purge k F) := by
  funext s
  simp only [purge, put]
  by_cases e : s = d
  · subst e; simp [AV.lpOf, h]
  · simp [e]
theorem putL_comm {k : Nat} (h : k ≠ d) (x y : List AV) (L : Lm) : putL k x (putL d y L) = putL d y (putL k x L) := by
  funext s
  simp only [putL]
  by_cases e : s = k
  · subst e; simp [h]
  · simp [e]
theorem XO_pre {o : O} {dst : Option Nat} (hN : Off d F) (hc : constOk o = true) (hl : ∀ s ∈ looksO o, s ≠ d) (hd : dst ≠ some d) (hx : XO P dst K (put d (.lp d 0) F) (putL d z L) σ o) :
    XO P dst (fun F' L' σ' => Off d F' ∧ K (put d (.lp d 0) F') (putL d z L') σ') F L σ o := by
  have hF : ∀ s ∈ looksO o, put d (.lp d 0) F s = F s := fun s hs => by simp [put, hl s hs]
  by_cases hV : isV o = true
  · rw [XO_V hV] at hx ⊢
    obtain ⟨u, h1, h2⟩ := hx
    have h1 := Yv_congr hF h1
    have h3 : Yv P F L σ u o ∧ u.lpOf d = false := by
      cases o <;> try (cases hV; done)
      case pcall f args => exact ⟨h1, noLp_lpOf h1.2.1 d⟩
      all_goals
        simp only [Yv] at h1 ⊢
        rw [pv_off hN hc] at h1
        exact ⟨h1, pv_lpOf hN hc h1⟩
    refine ⟨u, h3.1, hN.putO h3.2, ?_⟩
    rw [← put_putO hd]; exact h2
  · cases o <;> simp only [isV, not_true_eq_false] at hV <;> simp only [looksO, List.mem_append] at hF
    case box x sh =>
      simp only [XO, XNew] at hx ⊢
      rw [← xv_congr hF]
      refine ⟨hx.1, ?_⟩
      have hx := hx.2
      cases dst with
      | none => exact hx.elim
      | some e =>
        have hne : d ≠ e := fun h => hd (by rw [h])
        cases sh with
        | true => exact fun i hi => ⟨hN.putO (dst := some e) (v := .gp i 0) rfl, by have := hx i hi; rw [show put e (.gp i 0) (put d (.lp d 0) F) = put d (.lp d 0) (put e (.gp i 0) F) from put_putO (dst := some e) hd _ _ _] at this; exact this⟩
        | false =>
          refine ⟨(hN.purge e).putO (dst := some e) (v := .lp e 0) (by simp [AV.lpOf]; exact Ne.symm hne), ?_⟩
          have hx : K (put e (.lp e 0) (purge e (put d (.lp d 0) F))) (putL e (xv (put d (.lp d 0) F) x).cells (putL d z L)) σ := hx
          rw [purge_putlp hne, putL_comm (Ne.symm hne), show put e (.lp e 0) (put d (.lp d 0) (purge e F)) = put d (.lp d 0) (put e (.lp e 0) (purge e F)) from put_putO (dst := some e) hd _ _ _] at hx
          exact hx
    case al y sh =>
      simp only [XO, XNew] at hx ⊢
      refine ⟨hx.1, ?_⟩
      have hx := hx.2
      cases dst with
      | none => exact hx.elim
      | some e =>
        have hne : d ≠ e := fun h => hd (by rw [h])
        cases sh with
        | true => exact fun i hi => ⟨hN.putO (dst := some e) (v := .gp i 0) rfl, by have := hx i hi; rw [show put e (.gp i 0) (put d (.lp d 0) F) = put d (.lp d 0) (put e (.gp i 0) F) from put_putO (dst := some e) hd _ _ _] at this; exact this⟩
        | false =>
          refine ⟨(hN.purge e).putO (dst := some e) (v := .lp e 0) (by simp [AV.lpOf]; exact Ne.symm hne), ?_⟩
          have hx : K (put e (.lp e 0) (purge e (put d (.lp d 0) F))) (putL e y (putL d z L)) σ := hx
          rw [purge_putlp hne, putL_comm (Ne.symm hne), show put e (.lp e 0) (put d (.lp d 0) (purge e F)) = put d (.lp d 0) (put e (.lp e 0) (purge e F)) from put_putO (dst := some e) hd _ _ _] at hx
          exact hx
    case st x y n =>
      simp only [XO, XSt] at hx ⊢
      rw [xv_congr (F := put d (.lp d 0) F) (F' := F) (fun s hs => hF s (.inl hs)), xv_congr (F := put d (.lp d 0) F) (F' := F) (fun s hs => hF s (.inr hs))] at hx
      obtain ⟨h1, h2, h3, h4⟩ := hx
      refine ⟨h1, h2, h3, ?_⟩
      have hp := xv_off hN hc
      generalize xv F x = p at hp h4
      cases p <;> simp only [stA] at h4 ⊢ <;> try (exact h4.elim)
      · rename_i k o2
        have hk : k ≠ d := by simpa [AV.lpOf] using hp
        rw [putL_ne hk] at h4
        cases hL : L k with
        | none => rw [hL] at h4; exact h4.elim
        | some cs =>
          rw [hL] at h4
          simp only [Option.bind_some] at h4 ⊢
          by_cases hle : o2 + (xv F y).cells.length ≤ cs.length
          · rw [if_pos hle] at h4 ⊢
            refine ⟨hN, ?_⟩
            have h4 : K (put d (.lp d 0) F) (putL k (wr cs o2 (xv F y).cells) (putL d z L)) σ := h4
            rw [putL_comm hk] at h4; exact h4
          · rw [if_neg hle] at h4; exact h4.elim
      · rename_i i o2
        cases hb : σ.blk i with
        | none => rw [hb] at h4; exact h4.elim
        | some cs =>
          rw [hb] at h4
          simp only [Option.bind_some] at h4 ⊢
          by_cases hle : o2 + (xv F y).cells.length ≤ cs.length
          · rw [if_pos hle] at h4 ⊢; exact ⟨hN, h4⟩
          · rw [if_neg hle] at h4; exact h4.elim
    case msl e s b y l c =>
      obtain ⟨k, k', n, h1, h2, h3, h4, h5, h6⟩ := hx
      refine ⟨k, k', n, by rw [← xv_congr (fun s hs => hF s (.inl hs))]; exact h1, by rw [← xv_congr (fun s hs => hF s (.inr hs))]; exact h2, h3, h4, h5, fun i hi => ⟨hN.putO rfl, ?_⟩⟩
      rw [← put_putO hd]; exact h6 i hi
    case app e s b x y =>
      obtain ⟨rows, σ1, srows, h1, h2, h3, h4, h5, h6⟩ := hx
      refine ⟨rows, σ1, srows, by rw [← xv_congr (fun s hs => hF s (.inl hs))]; exact h1, by rw [← xv_congr (fun s hs => hF s (.inr hs))]; exact h2, h3, h4, h5, fun t ht => ⟨hN.putO rfl, ?_⟩⟩
      rw [← put_putO hd]; exact h6 t ht
    case appm e s b x y =>
      obtain ⟨n, cs, σ1, srows, h1, h2, h3, h4, h5, h6, h7⟩ := hx
      refine ⟨n, cs, σ1, srows, by rw [← xv_congr (fun s hs => hF s (.inl hs))]; exact h1, by rw [← xv_congr (fun s hs => hF s (.inr hs))]; exact h2, h3, fun e => ⟨hN.putO ?_, ?_⟩, h5, h6, fun e t ht => ⟨hN.putO rfl, ?_⟩⟩
      · unfold appmA at h1
        rw [← xv_congr (fun s hs => hF s (.inl hs))]
        generalize xv _ x = xx at h1
        cases xx <;> first | rfl | (cases h1; done)
      · rw [← put_putO hd, ← xv_congr (fun s hs => hF s (.inl hs))]; exact h4 e
      · rw [← put_putO hd]; exact h7 e t ht
    case trn x y =>
      obtain ⟨k, s, e, cs, σ1, h1, h2⟩ := hx
      refine ⟨k, s, e, cs, σ1, by rw [← xv_congr (fun s hs => hF s (.inl hs)), ← xv_congr (fun s hs => hF s (.inr hs))]; exact h1, fun t ht => ⟨hN.putO rfl, ?_⟩⟩
      rw [← put_putO hd]; exact h2 t ht
    case bslm e s l y ps =>
      obtain ⟨cs, h1, h2⟩ := hx
      refine ⟨cs, by rw [← fillA_congr _ _ hF]; exact h1, fun t ht => ⟨hN.putO rfl, ?_⟩⟩
      rw [← put_putO hd]; exact h2 t ht
    case call f args =>
      obtain ⟨h1, R, h2, h3⟩ := hx
      rw [xvs_congr hF] at h1 h2
      refine ⟨h1, _, h2.lpOf d, fun u σ' hv => ⟨hN.putO hv.2, ?_⟩⟩
      rw [← put_putO hd]; exact h3 u σ' hv.1
    case callv x args =>
      obtain ⟨f, first, caps, h0, hb, h1, R, h2, h3⟩ := hx
      rw [xvs_congr (fun s hs => hF s (.inr hs))] at h1 h2
      refine ⟨f, first, caps, by rw [← xv_congr (fun s hs => hF s (.inl hs))]; exact h0, hb, h1, _, h2.lpOf d, fun u σ' hv => ⟨hN.putO hv.2, ?_⟩⟩
      rw [← put_putO hd]; exact h3 u σ' hv.1
    case ex k xs =>
      simp only [XO, XEx, hV, Bool.false_eq_true, if_false] at hx ⊢
      rw [xvs_congr hF] at hx
      refine ⟨hx.1, hx.2.mono fun u σ' hu hv => ⟨hN.putO (hu d), ?_⟩⟩
      rw [← put_putO hd]; exact hv
theorem XQ_pre {q : Q} (hN : Off d F) (hc : constOk q.o = true) (hl : ∀ s ∈ q.looks, s ≠ d) (hd : q.dst ≠ some d) (hx : XQ P q K (put d (.lp d 0) F) (putL d z L) σ) :
    XQ P q (fun F' L' σ' => Off d F' ∧ K (put d (.lp d 0) F') (putL d z L') σ') F L σ := by
  have h1 : ∀ s ∈ looksO q.o, s ≠ d := fun s hs => hl s (by simp [Q.looks, hs])
  unfold XQ at hx ⊢
  rw [gd_congr (F := put d (.lp d 0) F) (F' := F) (fun s hs => by simp [put, hl s hs])] at hx
  cases hc2 : gd F q.grd with
  | none => rw [hc2] at hx; exact hx.elim
  | some b =>
    rw [hc2] at hx
    cases b
    · have hx : K (putO q.dst (.tup []) (put d (.lp d 0) F)) (putL d z L) σ := hx
      rw [put_putO hd] at hx
      exact ⟨hN.putO rfl, hx⟩
    · exact XO_pre hN hc h1 hd hx
theorem purge_off (h : Off d F) : purge d F = F := by
  funext s
  simp [purge, h s]
def layOk (tab : Array Nat) (qs : List Q) (i d : Nat) : Bool :=
  qs.zipIdx.all fun (qj, j) => j == i || (tab.getD j 0).testBit i || (constOk qj.o && !qj.looks.contains d && qj.dst != some d)
theorem xany_al {ops : Array Oper} {tab : Array Nat} (htab : ∀ j i, (tab.getD j 0).testBit i = true → Anc ops j i) {qs : List Q} {i : Nat} (hi : qs[i]? = some ⟨some d, .al z false, none⟩) (hz : cellsOk z = true) (hlay : layOk tab qs i d = true) :
    ∀ (fuel : Nat) (listed : Array Bool) (F : Fm) (L : Lm) (σ : Heap), Closed ops listed → listed.size = ops.size → i ∈ Region.ready .any ops listed → Off d F →
      XAny P ops qs K fuel (listed.setIfInBounds i true) (put d (.lp d 0) F) (putL d z L) σ → XAny P ops qs K (fuel + 1) listed F L σ := by
  have hself : ∀ (K2 : Kont) (F : Fm) (L : Lm) (σ : Heap), Off d F → K2 (put d (.lp d 0) F) (putL d z L) σ → XQ P ⟨some d, .al z false, none⟩ K2 F L σ := fun K2 F L σ hN h => by
    show XNew z false (some d) K2 F L σ
    refine ⟨hz, ?_⟩
    show K2 (put d (.lp d 0) (purge d F)) (putL d z L) σ
    rw [purge_off hN]; exact h
  intro fuel
  induction fuel with
  | zero =>
    intro listed F L σ hcl hsz hr hN H
    refine ⟨fun h => (by rw [h] at hr; cases hr), fun j hj => ?_⟩
    by_cases hji : i = j
    · subst hji; exact ⟨_, hi, hself _ _ _ _ hN H⟩
    · have := rdy_mono hj hji
      rw [H.1] at this; cases this
  | succ fuel ih =>
    intro listed F L σ hcl hsz hr hN H
    refine ⟨fun h => (by rw [h] at hr; cases hr), fun j hj => ?_⟩
    by_cases hji : i = j
    · subst hji; exact ⟨_, hi, hself _ _ _ _ hN H⟩
    · obtain ⟨qj, hqj, hxj⟩ := H.2 j (rdy_mono hj hji)
      obtain ⟨hjlt, hjun, oj, hoj, hjall⟩ := mem_rdy.1 hj
      have hiun := (mem_rdy.1 hr).2.1
      have hilt := (mem_rdy.1 hr).1
      have hmem : (qj, j) ∈ qs.zipIdx := by rw [List.mem_zipIdx_iff_getElem?]; exact hqj
      have hb := List.all_eq_true.1 hlay (qj, j) hmem
      simp only [Bool.or_eq_true, beq_iff_eq, Bool.and_eq_true, Bool.not_eq_true', bne_iff_ne] at hb
      rcases hb with (hb | hanc) | ⟨⟨hc, hlk⟩, hdst⟩
      · exact absurd hb.symm hji
      · have h1 := anc_listed hcl (htab j i hanc) (fun o ho => by rw [hoj] at ho; cases ho; exact hjall)
        rw [Array.getD_eq_getD_getElem?, Array.getElem?_eq_getElem (by omega)] at h1 hiun
        simp at h1 hiun
        rw [h1] at hiun; cases hiun
      · refine ⟨qj, hqj, ?_⟩
        have hlk' : ∀ s ∈ qj.looks, s ≠ d := fun s hs he => by subst he; rw [← Bool.not_eq_true, List.contains_iff_mem] at hlk; exact hlk hs
        have hcomm : (listed.setIfInBounds i true).setIfInBounds j true = (listed.setIfInBounds j true).setIfInBounds i true := Array.setIfInBounds_comm _ _ hji
        refine XQ_all (fun F' L' σ' h => ?_) (XQ_pre hN hc hlk' hdst hxj)
        refine ih _ F' L' σ' (hcl.set hj) (by simpa using hsz) (rdy_mono hr (Ne.symm hji)) h.1 ?_
        rw [← hcomm]; exact h.2
def purges : List Nat → Fm → Fm
  | [], F => F
  | d :: ds, F => purges ds (purge d F)
theorem purges_weak : ∀ (ds : List Nat) (F : Fm) (s : Nat), purges ds F s = F s ∨ purges ds F s = .undef
  | [], F, s => .inl rfl
  | d :: ds, F, s => by
    rcases purges_weak ds (purge d F) s with h | h
    · rw [purges, h]; simp only [purge]; split <;> simp
    · exact .inr h
theorem purges_off : ∀ (ds : List Nat) (F : Fm) (d : Nat), (d ∈ ds ∨ Off d F) → Off d (purges ds F)
  | [], F, d, h => by
    rcases h with h | h
    · cases h
    · exact h
  | e :: ds, F, d, h => by
    refine purges_off ds (purge e F) d ?_
    rcases h with h | h
    · cases h with
      | head => exact .inr (off_purge _ F)
      | tail _ h => exact .inl h
    · exact .inr (h.purge e)
theorem purges_put : ∀ (ds : List Nat) (F : Fm) (d : Nat), d ∉ ds → purges ds (put d (.lp d 0) F) = put d (.lp d 0) (purges ds F)
  | [], F, d, _ => rfl
  | e :: ds, F, d, h => by
    simp only [List.mem_cons, not_or] at h
    simp only [purges]
    rw [purge_putlp h.1, purges_put ds _ d h.2]
def splitLay : PT → List Nat × PT
  | .lay i t => (i :: (splitLay t).1, (splitLay t).2)
  | t => ([], t)
def layD (qs : List Q) : List Nat → Option (List (Nat × Nat × List AV))
  | [] => some []
  | i :: l => match qs[i]? with
    | some ⟨some d, .al z false, none⟩ => if cellsOk z then (layD qs l).map ((i, d, z) :: ·) else none
    | _ => none
def laysOk (ops : Array Oper) (tab : Array Nat) (qs : List Q) : List (Nat × Nat × List AV) → Array Bool → Bool
  | [], _ => true
  | (i, d, _) :: r, listed => (Region.ready .any ops listed).contains i && layOk tab qs i d && !(r.map (·.2.1)).contains d && laysOk ops tab qs r (listed.setIfInBounds i true)
def setAll : List Nat → Array Bool → Array Bool
  | [], a => a
  | i :: l, a => setAll l (a.setIfInBounds i true)
def layF : List (Nat × Nat × List AV) → Fm → Fm
  | [], F => F
  | (_, d, _) :: r, F => layF r (put d (.lp d 0) (purge d F))
def layL : List (Nat × Nat × List AV) → Lm → Lm
  | [], L => L
  | (_, d, z) :: r, L => layL r (putL d z L)
theorem xany_lays {ops : Array Oper} {tab : Array Nat} (htab : ∀ j i, (tab.getD j 0).testBit i = true → Anc ops j i) {qs : List Q} {n : Nat} : ∀ (ls : List (Nat × Nat × List AV)) (listed : Array Bool) (F : Fm) (L : Lm) (σ : Heap),
    (∀ x ∈ ls, qs[x.1]? = some ⟨some x.2.1, .al x.2.2 false, none⟩ ∧ cellsOk x.2.2 = true) → laysOk ops tab qs ls listed = true → Closed ops listed → listed.size = ops.size →
    XAny P ops qs K n (setAll (ls.map (·.1)) listed) (layF ls F) (layL ls L) σ → XAny P ops qs K (n + ls.length) listed (purges (ls.map (·.2.1)) F) L σ
  | [], listed, F, L, σ, _, _, _, _, h => h
  | (i, d, z) :: r, listed, F, L, σ, hq, hok, hcl, hsz, h => by
    simp only [laysOk, Bool.and_eq_true, List.contains_iff_mem, Bool.not_eq_true'] at hok
    obtain ⟨⟨⟨hr, hlay⟩, hnd⟩, hrest⟩ := hok
    have hnd' : d ∉ r.map (·.2.1) := fun hm => by rw [← Bool.not_eq_true, List.contains_iff_mem] at hnd; exact hnd hm
    obtain ⟨hi, hz⟩ := hq (i, d, z) (by simp)
    have ih := xany_lays htab (n := n) r (listed.setIfInBounds i true) (put d (.lp d 0) (purge d F)) (putL d z L) σ (fun x hx => hq x (by simp [hx])) hrest (hcl.set hr) (by simpa using hsz) h
    rw [purges_put _ _ _ hnd'] at ih
    exact xany_al htab hi hz hlay (n + r.length) listed _ L σ hcl hsz hr (purges_off (r.map (·.2.1)) (purge d F) d (.inr (off_purge d F))) ih
theorem setAll_closed {ops : Array Oper} {tab : Array Nat} {qs : List Q} : ∀ (ls : List (Nat × Nat × List AV)) (listed : Array Bool), laysOk ops tab qs ls listed = true → Closed ops listed → listed.size = ops.size → Closed ops (setAll (ls.map (·.1)) listed) ∧ (setAll (ls.map (·.1)) listed).size = ops.size
  | [], listed, _, hc, hs => ⟨hc, hs⟩
  | (i, d, z) :: r, listed, hok, hcl, hsz => by
    simp only [laysOk, Bool.and_eq_true, List.contains_iff_mem] at hok
    exact setAll_closed r _ hok.2 (hcl.set hok.1.1.1) (by simpa using hsz)
def pickL (ls : List (Nat × Nat × List AV)) (t : QT) : QT := ls.foldr (fun x acc => .one ⟨some x.2.1, .al x.2.2 false, none⟩ acc) t
theorem pickL_XT : ∀ (ls : List (Nat × Nat × List AV)) (t : QT) (F : Fm) (L : Lm), XT P K false (pickL ls t) F L σ → XT P K false t (layF ls F) (layL ls L) σ
  | [], t, F, L, h => h
  | (i, d, z) :: r, t, F, L, h => by
    have h : XQ P ⟨some d, .al z false, none⟩ (XT P K false (pickL r t)) F L σ := h
    have h : XNew z false (some d) (XT P K false (pickL r t)) F L σ := h
    exact pickL_XT r t _ _ h.2
def compTA (P : Program) (N : Nat) (esc : List Nat) (pf : List FuncId) (pt : PT) (ops : Array Oper) : Option QT := do
  let qs ← compL P N esc ops (List.range ops.size)
  let qs := qs.map (toP pf)
  let tab := ancTab ops.toList #[]
  let ls ← layD qs (splitLay pt).1
  let l0 := Array.replicate ops.size false
  if laysOk ops tab qs ls l0 && planT ops tab qs (splitLay pt).2 (setAll (ls.map (·.1)) l0) none && decide ((splitLay pt).2.depth + ls.length ≤ ops.size) then (pickT qs (splitLay pt).2).map (pickL ls) else none
theorem layD_spec {qs : List Q} : ∀ (l : List Nat) (ls : List (Nat × Nat × List AV)), layD qs l = some ls → ∀ x ∈ ls, qs[x.1]? = some ⟨some x.2.1, .al x.2.2 false, none⟩ ∧ cellsOk x.2.2 = true
  | [], ls, h, x, hx => by simp only [layD, Option.some.injEq] at h; subst h; cases hx
  | i :: l, ls, h, x, hx => by
    simp only [layD] at h
    split at h
    · rename_i d z hq
      split at h
      · rename_i hz
        simp only [Option.map_eq_some_iff] at h
        obtain ⟨r, hr, rfl⟩ := h
        cases hx with
        | head => exact ⟨hq, hz⟩
        | tail _ hx => exact layD_spec l r hr x hx
      · cases h
    · cases h
theorem XAny_more {ops : Array Oper} {qs : List Q} : ∀ (n m : Nat) (listed : Array Bool) (F : Fm) (L : Lm) (σ : Heap), n ≤ m → XAny P ops qs K n listed F L σ → XAny P ops qs K m listed F L σ
  | 0, 0, listed, F, L, σ, _, h => h
  | 0, m + 1, listed, F, L, σ, _, h => ⟨fun _ => h.2, fun i hi => by rw [h.1] at hi; cases hi⟩
  | n + 1, 0, listed, F, L, σ, hle, h => by omega
  | n + 1, m + 1, listed, F, L, σ, hle, h => ⟨h.1, fun i hi => by
      obtain ⟨q, hq, hx⟩ := h.2 i hi
      exact ⟨q, hq, XQ_all (fun F L σ h => XAny_more n m _ F L σ (by omega) h) hx⟩⟩
theorem FRel.weakF (h : FRel base g lam Pr N F L σ a w0 w) {F' : Fm} (hF : ∀ s, F' s = F s ∨ F' s = .undef) : FRel base g lam Pr N F' L σ a w0 w := by
  refine ⟨fun s => ?_, h.sz, h.df, h.loc, h.inj, h.npr, h.rel⟩
  rcases hF s with e | e
  · rw [e]; exact h.tm s
  · rw [e]; exact VR.undef
theorem drawA_sound {ops : Array Oper} {esc : List Nat} {pf : List FuncId} {pt : PT} {qt : QT} (hm : P.follows .mixedOrders = true) (hc : compTA P N esc pf pt ops = some qt) (hx : XT P K false qt F L σ)
    (h : FRel base g lam Pr N F L σ a w0 w) {id : Nat} : (Code.region id ops true).wp P (fun e a' w' => e = .normal ∧ After base Pr N w0 g w K a' w') a w := by
  simp only [compTA, Option.bind_eq_bind, Option.bind_eq_some_iff] at hc
  obtain ⟨qs0, hq0, ls, hls, hc⟩ := hc
  split at hc
  case isFalse => cases hc
  rename_i hp
  simp only [Bool.and_eq_true, decide_eq_true_eq] at hp
  simp only [Option.map_eq_some_iff] at hc
  obtain ⟨t, ht, rfl⟩ := hc
  have hcl : Closed ops (Array.replicate ops.size false) := by
    intro j o ho hj
    have : (Array.replicate ops.size false).getD j false = false := by
      simp only [Array.getD_eq_getD_getElem?, Array.getElem?_replicate]; split <;> rfl
    rw [this] at hj; cases hj
  obtain ⟨hcl2, hsz2⟩ := setAll_closed ls _ hp.1.1 hcl (by simp)
  have hx2 := pickL_XT ls t F L hx
  have hany1 := (xt_main (P := P) (K := K) (fun j i => tab_sound) _ t ht).1 _ _ _ _ σ (Nat.le_refl _) hp.1.2 hcl2 hsz2 hx2
  have hany2 := xany_lays (P := P) (K := K) (tab := ancTab ops.toList #[]) (fun j i => tab_sound) ls _ F L σ (layD_spec _ ls hls) hp.1.1 hcl (by simp) hany1
  have hany := XAny_more _ ops.size _ _ _ _ hp.2 hany2
  refine wp_region_any hm ?_
  have hF := h.weakF (purges_weak (ls.map (·.2.1)) F)
  have hdrew : FRel base g lam Pr N (purges (ls.map (·.2.1)) F) L σ a w0 { w with drawn := w.drawn + 1 } :=
    hF.step (w' := w.drew) (Gh.le_refl g) (fun k b hb => rfl) (hF.rel.grow (w' := w.drew) (Nat.le_refl _) (fun _ _ _ => rfl) ((Below.refl base w).drew) (fun b hb => ⟨(hF.rel.pr b hb).1, .inl hb⟩))
  exact xany_sound hq0 K _ _ base g lam Pr _ L σ a w0 _ hany hdrew (fun a' w' hA => ⟨rfl, After.trans (Gh.le_refl g) ⟨Nat.le_refl _, fun _ _ => rfl⟩ hA⟩)
def lin : QT → Option (List Q)
  | .done => some []
  | .one q t => (lin t).map (q :: ·)
  | .alt _ _ _ => none
theorem lin_XT : ∀ (t : QT) (ops : List Q) (F : Fm) (L : Lm) (σ : Heap), lin t = some ops → XOps P K ops F L σ → XT P K false t F L σ
  | .done, ops, F, L, σ, h, hx => by simp only [lin, Option.some.injEq] at h; subst h; exact hx
  | .one q t, ops, F, L, σ, h, hx => by
    simp only [lin, Option.map_eq_some_iff] at h
    obtain ⟨l, hl, rfl⟩ := h
    exact XQ_all (fun F L σ h => lin_XT t l F L σ hl h) hx
  | .alt _ _ _, ops, F, L, σ, h, _ => by simp [lin] at h
end Go.Ab
