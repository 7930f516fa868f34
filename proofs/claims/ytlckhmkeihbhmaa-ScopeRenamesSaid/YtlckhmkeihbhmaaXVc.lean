/- Scope: constructors, rows of flags, the walk over a function. Scope: the alternatives of a match. Conditions: none. -/
import Derived.Test.YtlckhmkeihbhmaaXVb
set_option linter.unusedSimpArgs false
namespace Go.Ab
open Go.Proofs
theorem conAt_find (l : List Con) (s : Str) : l.findIdx? (fun c => c.name == s) = conAt l s := by
  induction l with
  | nil => rfl
  | cons x l ih =>
    rw [List.findIdx?_cons, conAt]
    split
    · rfl
    · rw [ih]
theorem ctrP_skip (s : Str) : ∀ (l m : List Dat), (∀ d ∈ l, conAt d.cons s = none) → ctrP (l ++ m) s = (ctrP m s).map fun x => (x.1 + l.length, x.2)
  | [], m, _ => by simp
  | d :: l, m, h => by
    rw [List.cons_append, ctrP, h d (List.mem_cons_self ..), ctrP_skip s l m (fun x hx => h x (List.mem_cons_of_mem _ hx))]
    simp only [Option.map_map, List.length_cons]
    congr 1
theorem ctrP_at {s : Str} {dt : List Dat} {i k : Nat} {d : Dat} (h : ∀ d ∈ dt.take i, conAt d.cons s = none) (hd : dt[i]? = some d) (hk : conAt d.cons s = some k) : ctrP dt s = some (i, k) := by
  have hi := (List.getElem?_eq_some_iff.1 hd).1
  rw [← List.take_append_drop i dt, ctrP_skip s _ _ h, drop_at hd, ctrP, hk]
  simp; omega
theorem ctrP_no {s : Str} {dt : List Dat} (h : ∀ d ∈ dt, conAt d.cons s = none) : ctrP dt s = none := by
  have := ctrP_skip s dt [] h
  simpa [ctrP] using this
theorem conAt_spec {l : List Con} {s : Str} {k : Nat} (h : conAt l s = some k) : ∃ c, l[k]? = some c ∧ c.name = s := by
  rw [← conAt_find, List.findIdx?_eq_some_iff_getElem] at h
  obtain ⟨h1, h2, _⟩ := h
  exact ⟨l[k], by simp [h1], by simpa using h2⟩
theorem ctrP_spec {s : Str} : ∀ {dt : List Dat} {x : Nat × Nat}, ctrP dt s = some x → ∃ d c, dt[x.1]? = some d ∧ d.cons[x.2]? = some c ∧ c.name = s
  | [], x, h => by simp [ctrP] at h
  | d :: l, x, h => by
    rw [ctrP] at h
    split at h
    · rename_i k hk
      cases h
      obtain ⟨c, hc, hn⟩ := conAt_spec hk
      exact ⟨d, c, rfl, hc, hn⟩
    · simp only [Option.map_eq_some_iff] at h
      obtain ⟨y, hy, rfl⟩ := h
      obtain ⟨d', c, h1, h2, h3⟩ := ctrP_spec hy
      exact ⟨d', c, by simpa using h1, h2, h3⟩
theorem ctrP_arity {s : Str} {dt : List Dat} {x : Nat × Nat} {d : Dat} {c : Con} (h1 : dt[x.1]? = some d) (h2 : d.cons[x.2]? = some c) : arity dt x = c.args.length := by
  simp [arity, h1, h2]
def ctrA (o : Option (Nat × Nat)) : AV := match o with
  | some x => .tup [.d (.int .i64 x.1), .d (.int .i64 x.2), .d (.bool true)]
  | none => .tup [.d (.int .i64 0), .d (.int .i64 0), .d (.bool false)]
def DtOk (dt : List Dat) : Prop := ∀ d ∈ dt, d.cons.length ≤ 1000000
theorem Constructor_ok (dt : List Dat) (hdt : DtOk dt) (s : Str) (σ : Heap) : ACalls Try.prog 42 [dsA dt, .d (.str s)] σ (fun v σ' => v = ctrA (ctrP dt s) ∧ σ' = σ) := by
  refine i_scope_Constructor (by simp) ?_
  rw [argF_2, dsA]
  refine Run.slot 0 (fun hb0 => ?_)
  simp only [put_get, if_true, AV.lenOk, List.length_map] at hb0
  (repeat' (first|refine Run.ct rfl ?_|((first|refine Run.reg mixed ?_|refine Run.condM ?_|(refine xo_gs rfl (fun h => ?_) (fun h => ?_) <;> try (cases h; done))) <;> try simp -implicitDefEqProofs only [List.length_map, go_sem, Nat.reduceEqDiff, Nat.reduceBEq, Nat.reduceAdd, Nat.reduceLeDiff, reduceIte, reduceCtorEq])|(refine ⟨fun h => ?_, fun h => ?_⟩ <;> first|(cases h; done)|try simp only [h])|fail))
  refine Run.loopA ?_
  refine Run.loopI ((fun (a0 : AV) (a1 : AV) (a10 : AV) => fun (i : Nat) => put 0 a0 (put 1 a1 (put 10 a10 (put 11 (.d (.int .i64 i)) U)))) _ _ _) (fun _ => E) (fun _ => σ) (fun i => i ≤ dt.length ∧ ∀ d ∈ dt.take i, conAt d.cons s = none) (fun i => dt.length - i) ?_ 0 ⟨by simp, by simp⟩
  rintro i ⟨hi, hno⟩ ih
  by_cases hlt : i < dt.length
  · obtain ⟨d, hd⟩ := ex_at hlt
    have he := dats_at hd
    have hw1 : IntKind.i64.wrap ((i : Int) + 1) = ((i + 1 : Nat) : Int) := by rw [wrap_pos (by omega) (by omega)]; omega
    (repeat' (first|refine Run.ct rfl ?_|((first|refine Run.reg mixed ?_|refine Run.condM ?_|(refine xo_gs rfl (fun h => ?_) (fun h => ?_) <;> try (cases h; done))) <;> try simp -implicitDefEqProofs only [lt_t hlt, he, go_sem, Nat.reduceEqDiff, Nat.reduceBEq, Nat.reduceAdd, Nat.reduceLeDiff, reduceIte, reduceCtorEq])|(refine ⟨fun h => ?_, fun h => ?_⟩ <;> first|(cases h; done)|try simp only [h])|fail))
    have hdl := hdt d (List.mem_of_getElem? hd)
    have hat := fun k => ctrP_at (k := k) hno hd
    rw [← conAt_find] at hat
    have hnext := fun (h : conAt d.cons s = none) => take_no (p := fun d : Dat => (conAt d.cons s).isSome) (i := i) (fun y hy => by simp [hno y hy]) hd (by rw [h]; rfl)
    obtain ⟨dn, dv, cs⟩ := d
    simp only [List.length_map] at *
    (repeat' (first|refine Run.ct rfl ?_|((first|refine Run.reg mixed ?_|refine Run.condM ?_|(refine xo_gs rfl (fun h => ?_) (fun h => ?_) <;> try (cases h; done))) <;> try simp -implicitDefEqProofs only [List.length_map, go_sem, Nat.reduceEqDiff, Nat.reduceBEq, Nat.reduceAdd, Nat.reduceLeDiff, reduceIte, reduceCtorEq])|(refine ⟨fun h => ?_, fun h => ?_⟩ <;> first|(cases h; done)|try simp only [h])|fail))
    refine Run.loopA ?_
    refine Run.loopI ((fun (a0 : AV) (a1 : AV) (a7 : AV) (a10 : AV) (a11 : AV) (a19 : AV) => fun (k : Nat) => put 0 a0 (put 1 a1 (put 7 a7 (put 10 a10 (put 11 a11 (put 19 a19 (put 20 (.d (.int .i64 k)) U))))))) _ _ _ _ _ _) (fun _ => E) (fun _ => σ) (fun k => k ≤ cs.length ∧ ∀ c ∈ cs.take k, (c.name == s) = false) (fun k => cs.length - k) ?_ 0 ⟨by simp, by simp⟩
    rintro k ⟨hk, hnk⟩ ih2
    by_cases hkl : k < cs.length
    · obtain ⟨c, hc⟩ := ex_at hkl
      have hec := cons_at hc
      have hwk := wrap_succ (show k + 1 ≤ 9000000000000000000 by omega)
      cases hs : (c.name == s) with
      | true =>
        (repeat' (first|refine Run.ct rfl ?_|((first|refine Run.reg mixed ?_|refine Run.condM ?_|refine Run.retP g_scope_Constructor (Heap.le_refl _) ?_|(refine xo_gs rfl (fun h => ?_) (fun h => ?_) <;> try (cases h; done))) <;> try simp -implicitDefEqProofs only [lt_t hkl, he, hec, strA_eql, hs, go_sem, Nat.reduceEqDiff, Nat.reduceBEq, Nat.reduceAdd, Nat.reduceLeDiff, reduceIte, reduceCtorEq])|(refine ⟨fun h => ?_, fun h => ?_⟩ <;> first|(cases h; done)|try simp only [h])|fail))
        rw [hat k (findIdx_at (p := fun c : Con => c.name == s) hnk hc hs)]; rfl
      | false =>
        (repeat' (first|refine Run.ct rfl ?_|((first|refine Run.reg mixed ?_|refine Run.condM ?_|(refine xo_gs rfl (fun h => ?_) (fun h => ?_) <;> try (cases h; done))) <;> try simp -implicitDefEqProofs only [lt_t hkl, he, hec, hwk, strA_eql, hs, go_sem, Nat.reduceEqDiff, Nat.reduceBEq, Nat.reduceAdd, Nat.reduceLeDiff, reduceIte, reduceCtorEq])|(refine ⟨fun h => ?_, fun h => ?_⟩ <;> first|(cases h; done)|try simp only [h])|fail))
        exact ih2 (k + 1) ⟨by omega, take_no (p := fun c : Con => c.name == s) hnk hc hs⟩ (by omega)
    · rw [List.take_of_length_le (by omega)] at hnk
      (repeat' (first|refine Run.ct rfl ?_|((first|refine Run.reg mixed ?_|refine Run.condM ?_|(refine xo_gs rfl (fun h => ?_) (fun h => ?_) <;> try (cases h; done))) <;> try simp -implicitDefEqProofs only [lt_f hkl, hw1, go_sem, Nat.reduceEqDiff, Nat.reduceBEq, Nat.reduceAdd, Nat.reduceLeDiff, reduceIte, reduceCtorEq])|(refine ⟨fun h => ?_, fun h => ?_⟩ <;> first|(cases h; done)|try simp only [h])|fail))
      refine ih (i + 1) ⟨by omega, fun y hy => ?_⟩ (by omega)
      have := hnext (by rw [← conAt_find, findIdx_no (p := fun c : Con => c.name == s) hnk]) y hy
      simpa using this
  · (repeat' (first|refine Run.ct rfl ?_|((first|refine Run.reg mixed ?_|refine Run.condM ?_|refine Run.retP g_scope_Constructor (Heap.le_refl _) ?_|(refine xo_gs rfl (fun h => ?_) (fun h => ?_) <;> try (cases h; done))) <;> try simp -implicitDefEqProofs only [lt_f hlt, go_sem, Nat.reduceEqDiff, Nat.reduceBEq, Nat.reduceAdd, Nat.reduceLeDiff, reduceIte, reduceCtorEq])|(refine ⟨fun h => ?_, fun h => ?_⟩ <;> first|(cases h; done)|try simp only [h])|fail))
    rw [List.take_of_length_le (by omega)] at hno
    rw [ctrP_no hno]; rfl
def bools (l : List Bool) : List AV := l.map fun b => .d (.bool b)
theorem bools_len (l : List Bool) : (bools l).length = l.length := by simp [bools]
theorem bools_get {l : List Bool} {k : Nat} {x : Bool} (h : l[k]? = some x) : (bools l)[k]? = some (.d (.bool x)) := by simp [bools, h]
theorem bools_wr {l : List Bool} {k : Nat} (x : Bool) (h : k < l.length) : wr (bools l) k [.d (.bool x)] = bools (l.set k x) := by
  unfold wr bools
  rw [List.map_set, List.set_eq_take_append_cons_drop, if_pos (by simpa using h)]
  simp
theorem bools_rep (n : Nat) : (List.replicate n [AV.d (.bool false)]).flatten = bools (List.replicate n false) := by
  induction n with
  | zero => rfl
  | succ n ih => rw [List.replicate_succ, List.flatten_cons, ih, List.replicate_succ]; rfl
theorem Index_bool_ok (l : List Bool) (b : Bool) (j e : Nat) (σ : Heap) (hj : σ.blk j = some (bools l)) (hl : l.length ≤ 1000000000) : ACalls Try.prog 71 [.ms j l.length 1 e, .d (.bool b)] σ (fun v σ' => v = .d (.int .i64 (idxI (l.findIdx? (fun x => b == x)))) ∧ σ' = σ) := by
  refine i_slices_Index_bool (by simp) ?_
  rw [argF_2]
  (repeat' (first|refine Run.ct rfl ?_|((first|refine Run.reg mixed ?_|refine Run.condM ?_|(refine xo_gs rfl (fun h => ?_) (fun h => ?_) <;> try (cases h; done))) <;> try simp -implicitDefEqProofs only [go_sem, Nat.reduceEqDiff, Nat.reduceBEq, Nat.reduceAdd, Nat.reduceLeDiff, reduceIte, reduceCtorEq])|(refine ⟨fun h => ?_, fun h => ?_⟩ <;> first|(cases h; done)|try simp only [h])|fail))
  refine Run.loopA ?_
  refine Run.loopI ((fun (a0 : AV) (a1 : AV) (a7 : AV) => fun (i : Nat) => put 0 a0 (put 1 a1 (put 7 a7 (put 8 (.d (.int .i64 i)) U)))) _ _ _) (fun _ => E) (fun _ => σ) (fun i => i ≤ l.length ∧ ∀ x ∈ l.take i, (b == x) = false) (fun i => l.length - i) ?_ 0 ⟨by simp, by simp⟩
  rintro i ⟨hi, hno⟩ ih
  by_cases hlt : i < l.length
  · obtain ⟨x, hx⟩ := ex_at hlt
    have he := bools_get hx
    have hix : ((i : Int) < (l.length : Int)) = True := by simp; omega
    have hw1 := wrap_succ (show i + 1 ≤ 9000000000000000000 by omega)
    cases hp : (b == x) with
    | true =>
      (repeat' (first|refine Run.ct rfl ?_|((first|refine Run.reg mixed ?_|refine Run.condM ?_|refine Run.retP g_slices_Index_bool (Heap.le_refl _) ?_|(refine xo_gs rfl (fun h => ?_) (fun h => ?_) <;> try (cases h; done))) <;> try simp -implicitDefEqProofs only [lt_t hlt, hix, hj, he, hp, Nat.mul_one, go_sem, Nat.reduceEqDiff, Nat.reduceBEq, Nat.reduceAdd, Nat.reduceLeDiff, reduceIte, reduceCtorEq])|(refine ⟨fun h => ?_, fun h => ?_⟩ <;> first|(cases h; done)|try simp only [h])|fail))
      rw [findIdx_at (p := fun x => b == x) hno hx hp]; rfl
    | false =>
      (repeat' (first|refine Run.ct rfl ?_|((first|refine Run.reg mixed ?_|refine Run.condM ?_|(refine xo_gs rfl (fun h => ?_) (fun h => ?_) <;> try (cases h; done))) <;> try simp -implicitDefEqProofs only [lt_t hlt, hix, hj, he, hw1, hp, Nat.mul_one, go_sem, Nat.reduceEqDiff, Nat.reduceBEq, Nat.reduceAdd, Nat.reduceLeDiff, reduceIte, reduceCtorEq])|(refine ⟨fun h => ?_, fun h => ?_⟩ <;> first|(cases h; done)|try simp only [h])|fail))
      exact ih (i + 1) ⟨by omega, take_no (p := fun x => b == x) hno hx hp⟩ (by omega)
  · (repeat' (first|refine Run.ct rfl ?_|((first|refine Run.reg mixed ?_|refine Run.condM ?_|refine Run.retP g_slices_Index_bool (Heap.le_refl _) ?_|(refine xo_gs rfl (fun h => ?_) (fun h => ?_) <;> try (cases h; done))) <;> try simp -implicitDefEqProofs only [lt_f hlt, go_sem, Nat.reduceEqDiff, Nat.reduceBEq, Nat.reduceAdd, Nat.reduceLeDiff, reduceIte, reduceCtorEq])|(refine ⟨fun h => ?_, fun h => ?_⟩ <;> first|(cases h; done)|try simp only [h])|fail))
    rw [List.take_of_length_le (by omega)] at hno
    rw [findIdx_no (p := fun x => b == x) hno]; rfl
theorem Contains_bool_ok (l : List Bool) (b : Bool) (j e : Nat) (σ : Heap) (hj : σ.blk j = some (bools l)) (hl : l.length ≤ 1000000000) : ACalls Try.prog 57 [.ms j l.length 1 e, .d (.bool b)] σ (fun v σ' => v = .d (.bool (l.any (fun x => b == x))) ∧ σ' = σ) := by
  refine i_slices_Contains_bool (by simp) ?_
  rw [argF_2]
  (repeat' (first|refine Run.ct rfl ?_|((first|refine Run.reg mixed ?_|refine Run.condM ?_|refine Run.retP g_slices_Contains_bool (Heap.le_refl _) ?_|refine XCall.det (Index_bool_ok l b j e σ hj hl) ?_|(refine xo_gs rfl (fun h => ?_) (fun h => ?_) <;> try (cases h; done))) <;> try simp -implicitDefEqProofs only [idxI_nn, any_findIdx, go_sem, Nat.reduceEqDiff, Nat.reduceBEq, Nat.reduceAdd, Nat.reduceLeDiff, reduceIte, reduceCtorEq])|(refine ⟨fun h => ?_, fun h => ?_⟩ <;> first|(cases h; done)|try simp only [h])|fail))
theorem Contains_nil_ok (b : Bool) (σ : Heap) : ACalls Try.prog 57 [.nils, .d (.bool b)] σ (fun v σ' => v = .d (.bool false) ∧ σ' = σ) := by
  have hi : ACalls Try.prog 71 [.nils, .d (.bool b)] σ (fun v σ' => v = .d (.int .i64 (-1)) ∧ σ' = σ) := by
    refine i_slices_Index_bool (by simp) ?_
    rw [argF_2]
    have h0 : decide ((0 : Int) < 0) = false := by decide
    (repeat' (first|refine Run.ct rfl ?_|((first|refine Run.reg mixed ?_|refine Run.condM ?_|refine Run.retP g_slices_Index_bool (Heap.le_refl _) ?_|(refine Run.loop ?_)|(refine xo_gs rfl (fun h => ?_) (fun h => ?_) <;> try (cases h; done))) <;> try simp -implicitDefEqProofs only [h0, go_sem, Nat.reduceEqDiff, Nat.reduceBEq, Nat.reduceAdd, Nat.reduceLeDiff, reduceIte, reduceCtorEq])|(refine ⟨fun h => ?_, fun h => ?_⟩ <;> first|(cases h; done)|try simp only [h])|fail))
  refine i_slices_Contains_bool (by simp) ?_
  rw [argF_2]
  have h1 : decide ((0 : Int) ≤ -1) = false := by decide
  (repeat' (first|refine Run.ct rfl ?_|((first|refine Run.reg mixed ?_|refine Run.condM ?_|refine Run.retP g_slices_Contains_bool (Heap.le_refl _) ?_|refine XCall.det (hi) ?_|(refine xo_gs rfl (fun h => ?_) (fun h => ?_) <;> try (cases h; done))) <;> try simp -implicitDefEqProofs only [h1, go_sem, Nat.reduceEqDiff, Nat.reduceBEq, Nat.reduceAdd, Nat.reduceLeDiff, reduceIte, reduceCtorEq])|(refine ⟨fun h => ?_, fun h => ?_⟩ <;> first|(cases h; done)|try simp only [h])|fail))
theorem walkFun_ok {S : Type} (vis : S → Ex × List Str → Int × S) (hS : S → Heap) (fid : FuncId) (first caps : List AV) (hb : hasBody Try.prog fid = true) (hfi : first.all AV.noLp = true) (hca : caps.all AV.noLp = true)
    (f : FE) (s : S) (hsz : f.body.size ≤ 1000000) (hfr : ∀ t j, (hS s).blk j = none → (hS t).blk j = none) (hvis : ∀ j, (hS s).blk j = none → VisOk vis hS j (.fn fid first caps) fid first caps (preP f.body f.params)) :
    ACalls Try.prog 28 [feA f, .fn fid first caps] (hS s) (fun v σ' => match runL vis (preP f.body f.params) s with
      | (none, s') => v = .tup [.d (.int .i64 ((f.body.size - 1 : Nat) : Int)), .d (.int .i64 0)] ∧ σ' = hS s'
      | (some (k, c), s') => v = .tup [.d (.int .i64 (k : Nat)), .d (.int .i64 c)] ∧ σ' = hS s') := by
  refine i_scope_walkFun (by simp) ?_
  rw [argF_2]
  have hw := fun σ => with_ok [] f.params σ
  rw [show bdL [] = .nilp from rfl] at hw
  have hw' : ∀ σ, ACalls Try.prog 41 [.nilp, .d (.sl (f.params.map sRow))] σ (fun v σ' => v = .d (bdL f.params) ∧ σ' = σ) := fun σ => ACalls.plain (by simpa only [AV.plains, plain_nilp, plain_d, List.nil_append] using hw σ)
  clear hw
  have hwalk := fun j hj => walk_ok vis hS j fid first caps hb hfi hca _ f.body f.params 0 s (Nat.le_refl _) (by omega) (hvis j hj)
  have hnn := preP_len f.body f.params
  have hblk : ∀ j n s, (WH hS j (.fn fid first caps) n s).blk j = some [.d (.int .i64 n), .fn fid first caps] := fun j n s => by simp only [WH, setBlk_get, if_true]
  rcases hr : runL vis (preP f.body f.params) s with ⟨_ | ⟨k, c⟩, s'⟩
  · have hwalk : ∀ j, (hS s).blk j = none → ACalls Try.prog 40 [.gp j 0, exA f.body, .d (bdL f.params)] (WH hS j (.fn fid first caps) 0 s) (fun v σ' => v = .d (.int .i64 0) ∧ σ' = WH hS j (.fn fid first caps) (f.body.size - 1) s') := fun j hj => (hwalk j hj).mono (by
      intro v σ' h
      simp only [WQ, hr] at h
      rw [hnn, Nat.zero_add] at h
      exact h)
    obtain ⟨nm, ps, o, n, u, ns, ks, al⟩ := f
    simp only [FE.enc, Ex.enc_mk, feA, exA, List.map_cons, List.map_nil] at hw' hwalk ⊢
    (repeat' (first|refine Run.ct rfl ?_|((first|refine Run.reg mixed ?_|refine Run.condM ?_|(refine xo_gs rfl (fun h => ?_) (fun h => ?_) <;> try (cases h; done))) <;> try simp -implicitDefEqProofs only [go_sem, Nat.reduceEqDiff, Nat.reduceBEq, Nat.reduceAdd, Nat.reduceLeDiff, reduceIte, reduceCtorEq])|(refine ⟨fun h => ?_, fun h => ?_⟩ <;> first|(cases h; done)|try simp only [h])|fail))
    intro j hj
    have h0 : (hS s).setBlk j [.d (.int .i64 0), .fn fid first caps] = WH hS j (.fn fid first caps) 0 s := rfl
    rw [h0]
    have hle : (hS s').le (WH hS j (.fn fid first caps) ((Ex.mk o n u ns ks al).size - 1) s') := le_setBlk (hfr s' j hj)
    (repeat' (first|refine Run.ct rfl ?_|((first|refine Run.reg mixed ?_|refine Run.condM ?_|(refine XCall.mk rfl (hwalk j hj) ?_; rintro _ _ ⟨rfl, rfl⟩)|(refine Run.retP g_scope_walkFun hle ?_)|refine XCall.det (hw' _) ?_|(refine xo_gs rfl (fun h => ?_) (fun h => ?_) <;> try (cases h; done))) <;> try simp -implicitDefEqProofs only [hblk, go_sem, Nat.reduceEqDiff, Nat.reduceBEq, Nat.reduceAdd, Nat.reduceLeDiff, reduceIte, reduceCtorEq])|(refine ⟨fun h => ?_, fun h => ?_⟩ <;> first|(cases h; done)|try simp only [h])|fail))
  · have hwalk : ∀ j, (hS s).blk j = none → ACalls Try.prog 40 [.gp j 0, exA f.body, .d (bdL f.params)] (WH hS j (.fn fid first caps) 0 s) (fun v σ' => v = .d (.int .i64 c) ∧ σ' = WH hS j (.fn fid first caps) k s') := fun j hj => (hwalk j hj).mono (by
      intro v σ' h
      simp only [WQ, hr] at h
      rw [Nat.zero_add] at h
      exact h.2)
    obtain ⟨nm, ps, o, n, u, ns, ks, al⟩ := f
    simp only [FE.enc, Ex.enc_mk, feA, exA, List.map_cons, List.map_nil] at hw' hwalk ⊢
    (repeat' (first|refine Run.ct rfl ?_|((first|refine Run.reg mixed ?_|refine Run.condM ?_|(refine xo_gs rfl (fun h => ?_) (fun h => ?_) <;> try (cases h; done))) <;> try simp -implicitDefEqProofs only [go_sem, Nat.reduceEqDiff, Nat.reduceBEq, Nat.reduceAdd, Nat.reduceLeDiff, reduceIte, reduceCtorEq])|(refine ⟨fun h => ?_, fun h => ?_⟩ <;> first|(cases h; done)|try simp only [h])|fail))
    intro j hj
    have h0 : (hS s).setBlk j [.d (.int .i64 0), .fn fid first caps] = WH hS j (.fn fid first caps) 0 s := rfl
    rw [h0]
    have hle : (hS s').le (WH hS j (.fn fid first caps) k s') := le_setBlk (hfr s' j hj)
    (repeat' (first|refine Run.ct rfl ?_|((first|refine Run.reg mixed ?_|refine Run.condM ?_|(refine XCall.mk rfl (hwalk j hj) ?_; rintro _ _ ⟨rfl, rfl⟩)|(refine Run.retP g_scope_walkFun hle ?_)|refine XCall.det (hw' _) ?_|(refine xo_gs rfl (fun h => ?_) (fun h => ?_) <;> try (cases h; done))) <;> try simp -implicitDefEqProofs only [hblk, go_sem, Nat.reduceEqDiff, Nat.reduceBEq, Nat.reduceAdd, Nat.reduceLeDiff, reduceIte, reduceCtorEq])|(refine ⟨fun h => ?_, fun h => ?_⟩ <;> first|(cases h; done)|try simp only [h])|fail))
end Go.Ab

namespace Go.Ab
open Go.Proofs
theorem nodup_len {α : Type} [DecidableEq α] : ∀ {l m : List α}, l.Nodup → (∀ x ∈ l, x ∈ m) → l.length ≤ m.length
  | [], m, _, _ => by simp
  | x :: l, m, hn, hs => by
    have hx := hs x (List.mem_cons_self ..)
    have h1 : (m.erase x).length = m.length - 1 := List.length_erase_of_mem hx
    have h2 := List.length_pos_of_mem hx
    have h3 : l.length ≤ (m.erase x).length := nodup_len (List.nodup_cons.1 hn).2 (fun y hy => (List.mem_erase_of_ne (by
      rintro rfl; exact (List.nodup_cons.1 hn).1 hy)).2 (hs y (List.mem_cons_of_mem _ hy)))
    simp only [List.length_cons]; omega
def fstD : List (Nat × Nat) → Nat
  | [] => 0
  | x :: _ => x.1
def flg (xs : List (Nat × Nat)) (f n : Nat) : List Bool := (List.range n).map fun q => xs.contains (f, q)
def exB : List (Nat × Nat) → Bool
  | [] => true
  | x :: l => (x :: l).all (fun y => y.1 == x.1) && decide (x :: l).Nodup
theorem flg_len (xs : List (Nat × Nat)) (f n : Nat) : (flg xs f n).length = n := by simp [flg]
theorem flg_get (xs : List (Nat × Nat)) {f n q : Nat} (h : q < n) : (flg xs f n)[q]? = some (xs.contains (f, q)) := by simp [flg, h]
theorem flg_nil (f n : Nat) : flg [] f n = List.replicate n false := by
  apply List.ext_getElem?
  intro q
  by_cases h : q < n
  · rw [flg_get _ h]; simp [h]
  · rw [List.getElem?_eq_none (by simp [flg_len]; omega), List.getElem?_eq_none (by simp; omega)]
theorem flg_same {xs : List (Nat × Nat)} {f n d k : Nat} (h : d ≠ f ∨ (f, k) ∈ xs) : flg (xs ++ [(d, k)]) f n = flg xs f n := by
  unfold flg
  apply List.map_congr_left
  intro q _
  rw [Bool.eq_iff_iff]
  simp only [List.contains_iff_mem, List.mem_append, List.mem_singleton, Prod.mk.injEq]
  constructor
  · rintro (h1 | ⟨rfl, rfl⟩)
    · exact h1
    · rcases h with h | h
      · exact absurd rfl h
      · exact h
  · exact .inl
theorem flg_set {xs : List (Nat × Nat)} {f n k : Nat} (hk : k < n) : (flg xs f n).set k true = flg (xs ++ [(f, k)]) f n := by
  apply List.ext_getElem?
  intro q
  by_cases h : q < n
  · rw [flg_get _ h, List.getElem?_set]
    by_cases hq : k = q
    · subst hq
      rw [if_pos rfl, if_pos (by rw [flg_len]; exact hk)]
      congr 1
      simp
    · rw [if_neg hq, flg_get _ h]
      congr 1
      rw [Bool.eq_iff_iff]
      simp only [List.contains_iff_mem, List.mem_append, List.mem_singleton, Prod.mk.injEq, true_and]
      constructor
      · exact .inl
      · rintro (h1 | h1)
        · exact h1
        · exact absurd h1.symm hq
  · rw [List.getElem?_eq_none (by simp [flg_len]; omega), List.getElem?_eq_none (by simp [flg_len]; omega)]
theorem exB_snoc {xs : List (Nat × Nat)} (hne : xs ≠ []) (d k : Nat) : exB (xs ++ [(d, k)]) = (exB xs && !(d != fstD xs || xs.contains (fstD xs, k))) := by
  cases xs with
  | nil => exact absurd rfl hne
  | cons x l =>
    simp only [List.cons_append, exB, fstD]
    rw [Bool.eq_iff_iff]
    simp only [Bool.and_eq_true, List.all_eq_true, beq_iff_eq, decide_eq_true_eq, Bool.not_eq_true', Bool.or_eq_false_iff, bne_eq_false_iff_eq]
    rw [show x :: (l ++ [(d, k)]) = (x :: l) ++ [(d, k)] from rfl, List.nodup_append]
    constructor
    · rintro ⟨h1, h2, _, h3⟩
      have hd : d = x.1 := h1 (d, k) (by simp)
      refine ⟨⟨fun y hy => h1 y (by simp only [List.mem_append]; exact .inl hy), h2⟩, hd, ?_⟩
      rw [Bool.eq_false_iff]
      intro hc
      have := h3 _ (List.contains_iff_mem.1 hc) (d, k) (by simp)
      exact this (by rw [hd])
    · rintro ⟨⟨h1, h2⟩, rfl, h3⟩
      refine ⟨fun y hy => ?_, h2, by simp, fun a ha b hb => ?_⟩
      · rcases List.mem_append.1 hy with hy | hy
        · exact h1 y hy
        · simp only [List.mem_singleton] at hy; subst hy; rfl
      · simp only [List.mem_singleton] at hb; subst hb
        rintro rfl
        rw [List.contains_iff_mem.2 ha] at h3; cases h3
theorem exact_end {dt : List Dat} {xs : List (Nat × Nat)} (hne : xs ≠ []) (hk : ∀ x ∈ xs, x.1 = fstD xs → x.2 < nCons dt (fstD xs)) :
    exactB dt xs = (exB xs && !(flg xs (fstD xs) (nCons dt (fstD xs))).any (fun x => false == x)) := by
  cases xs with
  | nil => exact absurd rfl hne
  | cons x l =>
    simp only [exactB, exB, fstD] at hk ⊢
    generalize hxs : x :: l = xs at hk ⊢
    generalize nCons dt x.1 = n at hk ⊢
    rw [Bool.eq_iff_iff]
    simp only [Bool.and_eq_true, List.all_eq_true, beq_iff_eq, decide_eq_true_eq, Bool.not_eq_true', List.any_eq_false]
    constructor
    · rintro ⟨⟨h1, h2⟩, h3⟩
      refine ⟨⟨h1, h2⟩, fun b hb => ?_⟩
      simp only [flg, List.mem_map, List.mem_range] at hb
      obtain ⟨q, hq, rfl⟩ := hb
      intro hc
      have hc' : ¬ (x.1, q) ∈ xs := fun hm => by rw [List.contains_iff_mem.2 hm] at hc; cases hc
      have := nodup_len (m := ((List.range n).map fun q => (x.1, q)).erase (x.1, q)) h2 (fun y hy => by
        have hy1 := h1 y hy
        rw [List.mem_erase_of_ne (by rintro rfl; exact hc' hy)]
        rw [List.mem_map]
        exact ⟨y.2, by rw [List.mem_range]; exact hk y hy hy1, by rw [← hy1]⟩)
      rw [List.length_erase_of_mem (by rw [List.mem_map]; exact ⟨q, by simpa using hq, rfl⟩), List.length_map, List.length_range] at this
      omega
    · rintro ⟨⟨h1, h2⟩, h3⟩
      refine ⟨⟨h1, h2⟩, ?_⟩
      have hle := nodup_len (m := (List.range n).map fun q => (x.1, q)) h2 (fun y hy => by
        rw [List.mem_map]
        exact ⟨y.2, by rw [List.mem_range]; exact hk y hy (h1 y hy), by rw [← h1 y hy]⟩)
      have hge := nodup_len (l := (List.range n).map fun q => (x.1, q)) (m := xs) (by
        rw [List.nodup_iff_pairwise_ne, List.pairwise_map]
        exact List.Pairwise.imp (fun h he => h (Prod.mk.inj he).2) List.nodup_range) (fun y hy => by
        rw [List.mem_map] at hy
        obtain ⟨q, hq, rfl⟩ := hy
        have := h3 (xs.contains (x.1, q)) (by simp only [flg, List.mem_map]; exact ⟨q, hq, rfl⟩)
        cases hc : xs.contains (x.1, q) with
        | true => exact List.contains_iff_mem.1 hc
        | false => rw [hc] at this; simp at this)
      rw [List.length_map, List.length_range] at hle hge
      omega
theorem altsGo_app (dt : List Dat) (m : List Al) : ∀ {l : List Al} {xs : List (Nat × Nat)}, altsGo dt l = .ok xs → altsGo dt (l ++ m) = (altsGo dt m).map (xs ++ ·)
  | [], xs, h => by
    simp only [altsGo, Except.ok.injEq] at h; subst h
    simp only [List.nil_append]
    cases altsGo dt m <;> rfl
  | .mk c vs b :: l, xs, h => by
    rw [List.cons_append, altsGo]
    rw [altsGo] at h
    cases hc : ctrP dt c with
    | none => rw [hc] at h; cases h
    | some x =>
      rw [hc] at h
      simp only at h ⊢
      split at h
      · cases h
      · split at h
        · cases h
        · rename_i h1 h2
          rw [if_neg h1, if_neg h2]
          cases hl : altsGo dt l with
          | error e => rw [hl] at h; cases h
          | ok ys =>
            rw [hl] at h
            simp only [Except.map, Except.ok.injEq] at h
            subst h
            rw [altsGo_app dt m hl]
            cases altsGo dt m <;> rfl
end Go.Ab
