/- Scope: Data. Scope: what a valid program promises. Scope: Check. Scope: the names of functions in a body. Conditions: none. -/
import Derived.Test.YtlckhmkeihbhmaaXVl
set_option linter.unusedSimpArgs false
namespace Go.Ab
open Go.Proofs
theorem smallDE_c {p : Pg} (hv : validB p = true) (h : ∀ d ∈ p.data, smallDE d) : p.data.length ≤ 12 ∧ ∀ d ∈ p.data, d.cons.length ≤ 1000 ∧ ∀ c ∈ d.cons, smallCE c ∧ c.args.length ≤ 1000 := by
  simp only [validB, Bool.and_eq_true, decide_eq_true_eq, List.all_eq_true] at hv
  obtain ⟨⟨⟨h1, _⟩, h2⟩, _⟩ := hv
  refine ⟨h1, fun d hd => ?_⟩
  have := h2 d hd
  simp only [dataB, Bool.and_eq_true, decide_eq_true_eq, List.all_eq_true] at this
  obtain ⟨⟨_, h3⟩, h4⟩ := this
  refine ⟨by omega, fun c hc => ⟨h d hd c hc, ?_⟩⟩
  have := h4 c hc
  simp only [conB, Bool.and_eq_true, decide_eq_true_eq] at this
  omega
theorem le_cut {σ τ : Heap} (h : σ.le τ) : σ.le { τ with blk := fun j => if (σ.blk j).isSome then τ.blk j else none } :=
  ⟨fun i cs hi => by simp only [hi, Option.isSome_some, if_true]; exact h.blk i cs hi, h.tok, h.gt, h.bt⟩
set_option maxRecDepth 4000 in
set_option maxHeartbeats 8000000 in
theorem scope_Data_ok (p : Pg) (σ : Heap) (h : ∀ d ∈ p.data, smallDE d) : ACalls Try.prog 25 [pgA p] σ (fun v σ' => v = datRA (dataP p) ∧ σ' = σ) := by
  have hval := syntax_Valid_ok p σ h
  refine i_scope_Data (by simp) ?_
  rw [argF_1]
  unfold dataP
  cases hvb : validB p with
  | false =>
    rw [hvb] at hval
    obtain ⟨ds, fs⟩ := p
    simp only [pgA, Pg.enc, List.map_cons, List.map_nil] at hval ⊢
    (repeat' (first|refine Run.ct rfl ?_|((first|refine Run.reg mixed ?_|refine Run.condM ?_|(refine Run.retP g_scope_Data (σ2 := σ) (Heap.le_refl _) ?_)|refine XCall.det (hval) ?_|(refine xo_gs rfl (fun h => ?_) (fun h => ?_) <;> try (cases h; done))) <;> try simp -implicitDefEqProofs only [go_sem, Nat.reduceEqDiff, Nat.reduceBEq, Nat.reduceAdd, Nat.reduceLeDiff, reduceIte, reduceCtorEq])|(refine ⟨fun h => ?_, fun h => ?_⟩ <;> first|(cases h; done)|try simp only [h])|fail))
    rfl
  | true =>
  rw [hvb] at hval
  obtain ⟨hpl, hps⟩ := smallDE_c hvb h
  obtain ⟨ds, fs⟩ := p
  simp only [pgA, Pg.enc, List.map_cons, List.map_nil] at hval hpl hps ⊢
  (repeat' (first|refine Run.ct rfl ?_|((first|refine Run.reg mixed ?_|refine Run.condM ?_|refine XCall.det (hval) ?_|(refine xo_gs rfl (fun h => ?_) (fun h => ?_) <;> try (cases h; done))) <;> try simp -implicitDefEqProofs only [List.length_map, go_sem, Nat.reduceEqDiff, Nat.reduceBEq, Nat.reduceAdd, Nat.reduceLeDiff, reduceIte, reduceCtorEq])|(refine ⟨fun h => ?_, fun h => ?_⟩ <;> first|(cases h; done)|try simp only [h])|fail))
  intro jr hj
  generalize hQ : (fun (v : AV) (σ' : Heap) => v = datRA (match datGo [] ds with | .error (e, i) => .error (e, -1, (i : Int)) | .ok l => .ok l) ∧ σ' = σ) = Q
  have herr : ∀ (e : Int) (i : Nat), datGo [] ds = .error (e, i) → Q (.tup [.d (.sl []), .agg [.d (.int .i64 e), .d (.int .i64 (-1)), .d (.int .i64 i)]]) σ := fun e i hd => by
    rw [← hQ, hd]; exact ⟨rfl, rfl⟩
  have hok : ∀ (l : List Dat), datGo [] ds = .ok l → Q (.tup [dsA l, .agg [.d (.int .i64 0), .d (.int .i64 0), .d (.int .i64 0)]]) σ := fun l hd => by
    rw [← hQ, hd]; exact ⟨rfl, rfl⟩
  clear hQ
  have hle0 := le_setBlk (cs := [AV.nils, .d (.str []), .nils, .nils]) hj
  (repeat' (first|refine Run.ct rfl ?_|((first|refine Run.reg mixed ?_|refine Run.condM ?_|(refine xo_gs rfl (fun h => ?_) (fun h => ?_) <;> try (cases h; done))) <;> try simp -implicitDefEqProofs only [List.length_map, go_sem, Nat.reduceEqDiff, Nat.reduceBEq, Nat.reduceAdd, Nat.reduceLeDiff, reduceIte, reduceCtorEq])|(refine ⟨fun h => ?_, fun h => ?_⟩ <;> first|(cases h; done)|try simp only [h])|fail))
  refine Run.loopA ?_
  refine Run.loopI ((fun (a3 : AV) (a4 : AV) (a15 : AV) (a16 : AV) => fun (y : Nat × List Dat × Heap) => put 3 a3 (put 4 a4 (put 15 a15 (put 16 a16 (put 17 (.d (.int .i64 y.1)) U))))) _ _ _ _) (fun _ => putL 3 [.d (.int .i64 0), .d (.int .i64 0), .d (.int .i64 0)] E) (fun y => y.2.2)
    (fun y => y.1 ≤ ds.length ∧ datGo [] (ds.take y.1) = .ok y.2.1 ∧ ∃ dv y1 y2 y3, y.2.2.blk jr = some [dv, y1, y2, y3] ∧ (y1.isCell = true ∧ y2.isCell = true ∧ y3.isCell = true) ∧ DlX σ jr y.2.2 y.2.1 dv ∧ σ.le y.2.2)
    (fun y => ds.length - y.1) ?_ (0, [], _) ⟨by simp, rfl, .nils, .d (.str []), .nils, .nils, by simp only [setBlk_get, if_true], ⟨rfl, rfl, rfl⟩, .inl ⟨rfl, rfl⟩, hle0⟩
  rintro ⟨i, dl, τ⟩ ⟨hi, hgo, dv, y1, y2, y3, hb, hx, hv, hle⟩ ih
  simp only at hi hgo hb hv hle
  obtain ⟨f1, f2, f3, f4, f5⟩ := datGo_facts hgo
  have hlen : dl.length = i := by rw [f3, List.length_take]; omega
  by_cases hlt : i < ds.length
  · obtain ⟨d, hd⟩ := ex_at hlt
    have he := row_at (enc := DE.enc) hd
    have hw1 := wrap_succ (show i + 1 ≤ 9000000000000000000 by omega)
    have hdt : DtOk dl := f5 1000000 (fun d hd => by have := (hps d (List.mem_of_mem_take hd)).1; omega)
    obtain ⟨hc1, hc2⟩ := hps d (List.mem_of_getElem? hd)
    obtain ⟨nm, vs, cs⟩ := d
    have hc := declare_ok σ jr dl (by omega) f4 hdt nm vs cs hc1 hc2 τ dv y1 y2 y3 hb hx hv hle hj
    have hall : datGo [] ds = (datGo (ds.take i) (⟨nm, vs, cs⟩ :: ds.drop (i + 1))).map (dl ++ ·) := by
      conv => lhs; rw [← List.take_append_drop i ds, drop_at hd]
      exact datGo_app _ hgo
    have hsn : datGo [] (ds.take (i + 1)) = (datGo (ds.take i) [⟨nm, vs, cs⟩]).map (dl ++ ·) := by
      rw [take_snoc hd]; exact datGo_app _ hgo
    rw [datGo, ← f1, ← f2] at hall hsn
    simp only [DE.enc, deA, List.map_cons, List.map_nil] at he hc
    cases hr : declP (dsOf dl) (usedD dl) ⟨nm, vs, cs⟩ with
    | error e =>
      rw [hr] at hc hall
      simp only [Except.map, List.length_take, Nat.min_eq_left hi] at hall
      have hc' := ACalls.mono hc (Q' := fun v σ' => v = .d (.int .i64 e) ∧ e ≠ 0 ∧ σ.le σ') (fun v σ' h => h)
      (repeat' (first|refine Run.ct rfl ?_|((first|refine Run.reg mixed ?_|refine Run.condM ?_|(refine XCall.mk rfl hc' ?_; rintro _ τ' ⟨rfl, hne, hle'⟩)|(refine xo_gs rfl (fun h => ?_) (fun h => ?_) <;> try (cases h; done))) <;> try simp -implicitDefEqProofs only [lt_t hlt, he, go_sem, Nat.reduceEqDiff, Nat.reduceBEq, Nat.reduceAdd, Nat.reduceLeDiff, reduceIte, reduceCtorEq])|(refine ⟨fun h => ?_, fun h => ?_⟩ <;> first|(cases h; done)|try simp only [h])|fail))
      case refine_2 => exact absurd ‹(e != 0) = false› (by simp [hne])
      (repeat' (first|refine Run.ct rfl ?_|((first|refine Run.reg mixed ?_|refine Run.condM ?_|(refine Run.retP g_scope_Data (σ2 := σ) hle' ?_)|(refine xo_gs rfl (fun h => ?_) (fun h => ?_) <;> try (cases h; done))) <;> try simp -implicitDefEqProofs only [go_sem, Nat.reduceEqDiff, Nat.reduceBEq, Nat.reduceAdd, Nat.reduceLeDiff, reduceIte, reduceCtorEq])|(refine ⟨fun h => ?_, fun h => ?_⟩ <;> first|(cases h; done)|try simp only [h])|fail))
      exact herr e i hall
    | ok x =>
      rw [hr] at hc hsn
      simp only [datGo, Except.map] at hsn
      have hc' := ACalls.mono hc (Q' := fun v σ' => v = .d (.int .i64 0) ∧ σ.le σ' ∧ ∃ dv y1 y2 y3, σ'.blk jr = some [dv, y1, y2, y3] ∧ (y1.isCell = true ∧ y2.isCell = true ∧ y3.isCell = true) ∧ DlX σ jr σ' (dl ++ [x]) dv) (fun v σ' h => h)
      have h00 : ((0 : Int) != 0) = false := by decide
      (repeat' (first|refine Run.ct rfl ?_|((first|refine Run.reg mixed ?_|refine Run.condM ?_|(refine XCall.mk rfl hc' ?_; rintro _ τ' ⟨rfl, hle', dv', z1, z2, z3, hb', hx', hv'⟩)|(refine xo_gs rfl (fun h => ?_) (fun h => ?_) <;> try (cases h; done))) <;> try simp -implicitDefEqProofs only [lt_t hlt, he, hw1, go_sem, Nat.reduceEqDiff, Nat.reduceBEq, Nat.reduceAdd, Nat.reduceLeDiff, reduceIte, reduceCtorEq])|(refine ⟨fun h => ?_, fun h => ?_⟩ <;> first|(cases h; done)|try simp only [h])|fail))
      (repeat' (first|refine Run.ct rfl ?_|((first|refine Run.reg mixed ?_|refine Run.condM ?_|(refine xo_gs rfl (fun h => ?_) (fun h => ?_) <;> try (cases h; done))) <;> try simp -implicitDefEqProofs only [h00, hw1, go_sem, Nat.reduceEqDiff, Nat.reduceBEq, Nat.reduceAdd, Nat.reduceLeDiff, reduceIte, reduceCtorEq])|(refine ⟨fun h => ?_, fun h => ?_⟩ <;> first|(cases h; done)|try simp only [h])|fail))
      exact ih (i + 1, dl ++ [x], τ') ⟨by simp only; omega, hsn, dv', z1, z2, z3, hb', hx', hv', hle'⟩ (by simp only; omega)
  · rw [List.take_of_length_le (by omega)] at hgo
    have hfin := hok dl hgo
    rcases hv with ⟨rfl, rfl⟩ | ⟨jd, cells, rfl, hn, hne, hbd, hrows⟩
    · (repeat' (first|refine Run.ct rfl ?_|((first|refine Run.reg mixed ?_|refine Run.condM ?_|(refine Run.retP g_scope_Data (σ2 := σ) hle ?_)|(refine xo_gs rfl (fun h => ?_) (fun h => ?_) <;> try (cases h; done))) <;> try simp -implicitDefEqProofs only [lt_f hlt, hb, go_sem, Nat.reduceEqDiff, Nat.reduceBEq, Nat.reduceAdd, Nat.reduceLeDiff, reduceIte, reduceCtorEq])|(refine ⟨fun h => ?_, fun h => ?_⟩ <;> first|(cases h; done)|try simp only [h])|fail))
      exact hfin
    · obtain ⟨dvl, hdv, hch⟩ := hrows.enc
      (repeat' (first|refine Run.ct rfl ?_|((first|refine Run.reg mixed ?_|refine Run.condM ?_|(refine xo_gs rfl (fun h => ?_) (fun h => ?_) <;> try (cases h; done))) <;> try simp -implicitDefEqProofs only [lt_f hlt, hb, go_sem, Nat.reduceEqDiff, Nat.reduceBEq, Nat.reduceAdd, Nat.reduceLeDiff, reduceIte, reduceCtorEq])|(refine ⟨fun h => ?_, fun h => ?_⟩ <;> first|(cases h; done)|try simp only [h])|fail))
      refine Run.freeze (F' := put 2 (dsA dl) (put 3 (.lp 3 0) U)) (σ' := { τ with blk := fun j => if (σ.blk j).isSome then τ.blk j else none }) hbd hdv hrows.1 (Nat.le_trans (show dl.length ≤ 12 by omega) (by decide)) (fun s => ?_) (fun k cs' hk => ⟨cs', hk, .inl rfl⟩) (fun j cs' hj' => ?_) (fun _ h => h) ?_
      · by_cases h2 : s = 2
        · subst h2
          right
          simp only [put_get, if_true, frz, and_self, dsA, hch]
        · left
          simp only [put_get, if_neg h2]
      · simp only at hj'
        cases hs : σ.blk j with
        | none => rw [hs] at hj'; cases hj'
        | some c =>
          rw [hs] at hj'
          exact ⟨(fun e => by rw [e, hn] at hs; cases hs), cs', hj', .inl rfl⟩
      · refine Run.retP g_scope_Data (σ2 := σ) (le_cut hle) ?_
        simp -implicitDefEqProofs only [rs_scope_Data, dsA, go_sem, Nat.reduceEqDiff, Nat.reduceBEq, Nat.reduceAdd, Nat.reduceLeDiff, reduceIte, reduceCtorEq]
        exact hfin
end Go.Ab

namespace Go.Ab
open Go.Proofs
theorem le_sum {a : Nat} : ∀ {l : List Nat}, a ∈ l → a ≤ l.sum
  | x :: l, h => by
    rw [List.sum_cons]
    rcases List.mem_cons.1 h with rfl | h
    · omega
    · have := le_sum h; omega
def nb1 (e : Ex) : Prop := nodeB e.op e.name e.num e.names e.kids.length e.alts = true
def NB (e : Ex) : Prop := nb1 e ∧ ∀ k ∈ e.kids, nb1 k
theorem foldM_sum {α : Type} {f : Nat → α → Option Nat} {sz : α → Nat} {Q : α → Prop} : ∀ (l : List α) (q r : Nat), (∀ x ∈ l, ∀ a b, f a x = some b → sz x + b = a ∧ Q x) → l.foldlM f q = some r → (l.map sz).sum + r = q ∧ ∀ x ∈ l, Q x
  | [], q, r, _, h => by simp at h; simp [h]
  | x :: l, q, r, hf, h => by
    rw [List.foldlM_cons, Option.bind_eq_bind, Option.bind_eq_some_iff] at h
    obtain ⟨b, hb, h⟩ := h
    obtain ⟨h1, h2⟩ := hf x (List.mem_cons_self ..) q b hb
    obtain ⟨h3, h4⟩ := foldM_sum l b r (fun y hy => hf y (List.mem_cons_of_mem _ hy)) h
    refine ⟨by simp; omega, fun y hy => ?_⟩
    rcases List.mem_cons.1 hy with rfl | hy
    · exact h2
    · exact h4 y hy
theorem Ex.sizes_sum : ∀ l : List Ex, Ex.sizes l = (l.map Ex.size).sum
  | [] => rfl
  | x :: l => by simp [Ex.sizes, Ex.sizes_sum l]
theorem Al.sizes_sum : ∀ l : List Al, Al.sizes l = (l.map Al.size).sum
  | [] => rfl
  | x :: l => by simp [Al.sizes, Al.sizes_sum l]
theorem mem_preKs {o : Int} {n : Str} {ns sc : List Str} {x : Ex × List Str} : ∀ {l : List Ex} {i : Nat}, x ∈ preKs o n ns sc i l → ∃ k ∈ l, ∃ sc', x ∈ preP k sc'
  | [], i, h => by simp [preKs] at h
  | k :: l, i, h => by
    rw [preKs, List.mem_append] at h
    rcases h with h | h
    · exact ⟨k, List.mem_cons_self .., _, h⟩
    · obtain ⟨k', h1, h2⟩ := mem_preKs h
      exact ⟨k', List.mem_cons_of_mem _ h1, h2⟩
theorem mem_preAs {sc : List Str} {x : Ex × List Str} : ∀ {l : List Al}, x ∈ preAs sc l → ∃ a ∈ l, x ∈ preA a sc
  | [], h => by simp [preAs] at h
  | k :: l, h => by
    rw [preAs, List.mem_append] at h
    rcases h with h | h
    · exact ⟨k, List.mem_cons_self .., h⟩
    · obtain ⟨k', h1, h2⟩ := mem_preAs h
      exact ⟨k', List.mem_cons_of_mem _ h1, h2⟩
theorem vEx_good : ∀ (d q : Nat) (e : Ex) (r : Nat), vEx d q e = some r → e.size + r = q ∧ (nb1 e ∧ ∀ sc x, x ∈ preP e sc → NB x.1)
  | 0, q, e, r, h => by simp [vEx] at h
  | d + 1, 0, .mk .., r, h => by cases h
  | d + 1, q + 1, .mk o n u ns ks al, r, h => by
      simp only [vEx] at h
      split at h
      · rename_i hn
        rw [Option.bind_eq_some_iff] at h
        obtain ⟨c, hc, h⟩ := h
        obtain ⟨h1, h2⟩ := foldM_sum (sz := Ex.size) (Q := fun e => nb1 e ∧ ∀ sc x, x ∈ preP e sc → NB x.1) ks q c (fun x _ a b hab => vEx_good d a x b hab) hc
        obtain ⟨h3, h4⟩ := foldM_sum (sz := Al.size) (Q := fun a => ∀ sc x, x ∈ preA a sc → NB x.1) al c r (fun x _ a b hab => by
          cases x with
          | mk cc vs bd =>
            obtain ⟨g1, g2⟩ := vEx_good d a _ b hab
            exact ⟨g1, fun sc x hx => g2.2 _ x (by rw [preA] at hx; exact hx)⟩) h
        have hnb : nb1 (.mk o n u ns ks al) := hn
        refine ⟨by rw [Ex.size, Ex.sizes_sum, Al.sizes_sum]; omega, hnb, fun sc x hx => ?_⟩
        rw [preP, List.mem_cons, List.mem_append] at hx
        rcases hx with rfl | hx | hx
        · exact ⟨hnb, fun k hk => (h2 k hk).1⟩
        · obtain ⟨k, hk, sc', hx⟩ := mem_preKs hx
          exact (h2 k hk).2 sc' x hx
        · obtain ⟨a, ha, hx⟩ := mem_preAs hx
          exact h4 a ha _ x hx
      · simp at h
theorem nameB_ne {s : Str} (h : nameB s = true) : s ≠ [] := by
  rintro rfl
  revert h; decide
theorem nb1_name {e : Ex} (h : nb1 e) (ho : e.op = 4) : e.name ≠ [] := by
  unfold nb1 nodeB nmB at h
  simp only [ho, Bool.and_eq_true, if_true] at h
  exact nameB_ne h.1.1.1.1
theorem NB.good {e : Ex} (h : NB e) (hs : e.size ≤ 1000000) : goodE e := by
  obtain ⟨h1, h2⟩ := h
  obtain ⟨o, n, u, ns, ks, al⟩ := e
  simp only [Ex.size] at hs
  have hkl := Ex.len_sizes ks
  have hal := Al.len_sizes al
  refine ⟨nb1_name h1, fun ho => ?_, by simp only [Ex.alts]; omega, by simp only [Ex.kids]; omega⟩
  simp only [Ex.op] at ho
  subst ho
  unfold nb1 nodeB nkB at h1
  simp only [Ex.op, Ex.kids, Bool.and_eq_true] at h1
  have h3 := h1.2
  simp at h3
  cases ks with
  | nil => simp at h3
  | cons k ks => exact ⟨k, ks, rfl, fun hk => nb1_name (h2 k (List.mem_cons_self ..)) hk⟩
theorem mem_size : ∀ (N : Nat) (e : Ex) (sc : List Str) (x : Ex × List Str), e.size ≤ N → x ∈ preP e sc → x.1.size ≤ e.size
  | 0, e, sc, x, h, _ => by have := Ex.size_pos e; omega
  | N + 1, .mk o n u ns ks al, sc, x, h, hx => by
    rw [preP, List.mem_cons, List.mem_append] at hx
    rw [Ex.size] at h ⊢
    have hmk : ∀ k ∈ ks, k.size ≤ Ex.sizes ks := fun k hk => by
      rw [Ex.sizes_sum]; exact le_sum (List.mem_map_of_mem hk)
    have hma : ∀ k ∈ al, k.size ≤ Al.sizes al := fun k hk => by
      rw [Al.sizes_sum]; exact le_sum (List.mem_map_of_mem hk)
    rcases hx with rfl | hx | hx
    · rw [Ex.size]; omega
    · obtain ⟨k, hk, sc', hx⟩ := mem_preKs hx
      have := mem_size N k sc' x (by have := hmk k hk; omega) hx
      have := hmk k hk
      omega
    · obtain ⟨a, ha, hx⟩ := mem_preAs hx
      have h1 := hma a ha
      cases a with
      | mk c vs b =>
        rw [preA] at hx
        rw [Al.size] at h1
        have := mem_size N b _ x (by omega) hx
        omega
theorem foldFun_good : ∀ (l : List FE) (q r : Nat), l.foldlM vFun q = some r → ∀ f ∈ l, f.body.size ≤ q ∧ f.params.length ≤ 6 ∧ ∀ sc x, x ∈ preP f.body sc → NB x.1
  | [], q, r, _, f, hf => by simp at hf
  | g :: l, q, r, h, f, hf => by
    rw [List.foldlM_cons, Option.bind_eq_bind, Option.bind_eq_some_iff] at h
    obtain ⟨b, hb, h⟩ := h
    unfold vFun at hb
    split at hb
    · rename_i hh
      obtain ⟨h1, h2, h3⟩ := vEx_good _ _ _ _ hb
      rcases List.mem_cons.1 hf with rfl | hf
      · simp only [headB, Bool.and_eq_true, decide_eq_true_eq] at hh
        exact ⟨by omega, hh.1.2, h3⟩
      · have := foldFun_good l b r h f hf
        exact ⟨by omega, this.2⟩
    · cases hb
theorem valid_good {p : Pg} (h : validB p = true) : p.funs.length ≤ 24 ∧ ∀ f ∈ p.funs, f.body.size ≤ 600 ∧ f.params.length ≤ 6 ∧ ∀ sc x, x ∈ preP f.body sc → goodE x.1 := by
  simp only [validB, Bool.and_eq_true, decide_eq_true_eq] at h
  obtain ⟨⟨⟨_, h1⟩, _⟩, h2⟩ := h
  obtain ⟨r, hr⟩ := Option.isSome_iff_exists.1 h2
  refine ⟨h1, fun f hf => ?_⟩
  obtain ⟨g1, g2, g3⟩ := foldFun_good _ _ _ hr f hf
  exact ⟨g1, g2, fun sc x hx => (g3 sc x hx).good (by have := mem_size _ _ _ _ (Nat.le_refl _) hx; omega)⟩
theorem runL_err (vis : Ex → List Str → Int) : ∀ l : List (Ex × List Str), runL (fun (_ : Unit) x => (vis x.1 x.2, ())) l () = (errP vis l, ())
  | [] => rfl
  | x :: l => by
    rw [runL, errP, runL_err vis l]
    split <;> rfl
end Go.Ab

namespace Go.Ab
open Go.Proofs
theorem dataP_facts {p : Pg} {dt : List Dat} (hv : dataP p = .ok dt) : validB p = true ∧ datGo [] p.data = .ok dt := by
  unfold dataP at hv
  split at hv
  · rename_i h
    split at hv
    · cases hv
    · rename_i l hl; cases hv; exact ⟨h, hl⟩
  · cases hv
theorem consP_ne {ds : List (Str × Nat)} {vars : List Str} : ∀ {l : List CE} {used : List Str} {e : Int}, consP ds vars used l = .error e → e ≠ 0
  | [], used, e, h => by cases h
  | c :: l, used, e, h => by
    rw [consP] at h
    split at h
    · cases h; decide
    · cases ha : argsP ds vars c.args with
      | error e' => rw [ha] at h; cases h; exact argsP_ne ha
      | ok ts =>
        rw [ha] at h
        cases hl : consP ds vars (used ++ [c.name]) l with
        | error e' => rw [hl] at h; cases h; exact consP_ne hl
        | ok us => rw [hl] at h; cases h
theorem declP_ne {ds : List (Str × Nat)} {used : List Str} {d : DE} {e : Int} (h : declP ds used d = .error e) : e ≠ 0 := by
  unfold declP at h
  split at h
  · cases h; decide
  · cases hl : consP (ds ++ [(d.name, d.vars.length)]) d.vars used d.cons with
    | error e' => rw [hl] at h; cases h; exact consP_ne hl
    | ok us => rw [hl] at h; cases h
theorem datGo_ne : ∀ {l done : List DE} {e : Int} {i : Nat}, datGo done l = .error (e, i) → e ≠ 0
  | [], done, e, i, h => by cases h
  | d :: l, done, e, i, h => by
    rw [datGo] at h
    cases hd : declP (headsP done) (usedP done) d with
    | error e' => rw [hd] at h; cases h; exact declP_ne hd
    | ok x =>
      rw [hd] at h
      cases hl : datGo (done ++ [d]) l with
      | error e' => rw [hl] at h; cases h; exact datGo_ne hl
      | ok us => rw [hl] at h; cases h
theorem dataP_ne {p : Pg} {c a b : Int} (h : dataP p = .error (c, a, b)) : c ≠ 0 := by
  unfold dataP at h
  split at h
  · cases hl : datGo [] p.data with
    | error x => obtain ⟨e, i⟩ := x; rw [hl] at h; cases h; exact datGo_ne hl
    | ok us => rw [hl] at h; cases h
  · cases h; decide
theorem checkF_ok (ds : List DE) (fs : List FE) (dt : List Dat) (hdt : DtOk dt) (f : FE) (hsz : f.body.size ≤ 600) (hg : ∀ sc x, x ∈ preP f.body sc → goodE x.1) (σ : Heap) :
    ACalls Try.prog 28 [feA f, .fn 29 [.agg [.d (.sl (ds.map DE.enc)), .d (.sl (fs.map FE.enc)), .d (.sl (dt.map Dat.enc))]] []] σ
      (fun v σ' => v = (match errP (visP fs dt) (preP f.body f.params) with
        | none => .tup [.d (.int .i64 ((f.body.size - 1 : Nat) : Int)), .d (.int .i64 0)]
        | some (k, c) => .tup [.d (.int .i64 (k : Nat)), .d (.int .i64 c)]) ∧ σ' = σ) := by
  refine (walkFun_ok (S := Unit) (fun _ x => (visP fs dt x.1 x.2, ())) (fun _ => σ) 29 [.agg [.d (.sl (ds.map DE.enc)), .d (.sl (fs.map FE.enc)), .d (.sl (dt.map Dat.enc))]] [] (by kernel_rfl) rfl rfl f () (by omega) (fun _ _ h => h) (fun j hj x hx s n => ?_)).mono (fun v σ' h => ?_)
  · have := visit_ok ds fs dt hdt x.1 x.2 (hg _ _ hx) (WH (fun _ => σ) j (.fn 29 [.agg [.d (.sl (ds.map DE.enc)), .d (.sl (fs.map FE.enc)), .d (.sl (dt.map Dat.enc))]] []) n s)
    exact this
  · rw [runL_err] at h
    split at h
    · rename_i hh; simp only [Prod.mk.injEq] at hh; rw [hh.1]; exact h
    · rename_i hh; simp only [Prod.mk.injEq] at hh; rw [hh.1]; exact h
theorem errP_ne {vis : Ex → List Str → Int} {l : List (Ex × List Str)} {q : Nat} {c : Int} (h : errP vis l = some (q, c)) : c ≠ 0 :=
  runL_ne l () () (q, c) (by rw [runL_err, h])
theorem chkGo_app (fs : List FE) (dt : List Dat) (m : List FE) : ∀ (l : List FE) (i : Nat), (∀ k f, l[k]? = some f → chkF fs dt (i + k) f = none) → chkGo fs dt i (l ++ m) = chkGo fs dt (i + l.length) m
  | [], i, _ => rfl
  | f :: l, i, h => by
    have h0 := h 0 f rfl
    rw [Nat.add_zero] at h0
    rw [List.cons_append, chkGo, h0]
    simp only
    rw [chkGo_app fs dt m l (i + 1) (fun k g hg => by have := h (k + 1) g (by simpa using hg); rwa [show i + (k + 1) = i + 1 + k by omega] at this)]
    congr 1
    simp; omega
theorem idxP_le {s : Str} : ∀ {l : List Str} {i : Nat}, l[i]? = some s → ∃ k, idxP l s = some k ∧ k ≤ i
  | [], i, h => by simp at h
  | x :: l, i, h => by
    rw [idxP]
    split
    · exact ⟨0, rfl, by omega⟩
    · rename_i hne
      cases i with
      | zero => simp at h; simp [h] at hne
      | succ i =>
        obtain ⟨k, h1, h2⟩ := idxP_le (l := l) (i := i) (by simpa using h)
        exact ⟨k + 1, by rw [h1]; rfl, by omega⟩
set_option maxRecDepth 4000 in
set_option maxHeartbeats 8000000 in
theorem scope_Check_ok (p : Pg) (σ : Heap) (h : ∀ d ∈ p.data, smallDE d) : ACalls Try.prog 8 [pgA p] σ (fun v σ' => v = dgA (chkP p) ∧ σ' = σ) := by
  have hdat := scope_Data_ok p σ h
  refine i_scope_Check (by simp) ?_
  rw [argF_1]
  unfold chkP
  cases hdp : dataP p with
  | error d =>
    rw [hdp] at hdat
    obtain ⟨c, a, b⟩ := d
    obtain ⟨ds, fs⟩ := p
    simp only [pgA, Pg.enc, List.map_cons, List.map_nil, datRA, dgA, dsA] at hdat ⊢
    have hne : (c != 0) = true := by simpa using dataP_ne hdp
    (repeat' (first|refine Run.ct rfl ?_|((first|refine Run.reg mixed ?_|refine Run.condM ?_|refine Run.retR g_scope_Check (Heap.le_refl _) ?_|refine XCall.det (hdat) ?_|(refine xo_gs rfl (fun h => ?_) (fun h => ?_) <;> try (cases h; done))) <;> try simp -implicitDefEqProofs only [hne, go_sem, Nat.reduceEqDiff, Nat.reduceBEq, Nat.reduceAdd, Nat.reduceLeDiff, reduceIte, reduceCtorEq])|(refine ⟨fun h => ?_, fun h => ?_⟩ <;> first|(cases h; done)|try simp only [h])|fail))
  | ok dt =>
  rw [hdp] at hdat
  obtain ⟨hval, hgo⟩ := dataP_facts hdp
  obtain ⟨hfl, hgood⟩ := valid_good hval
  obtain ⟨ds, fs⟩ := p
  have hfun := fun s => function_ok ⟨ds, fs⟩ s σ
  simp only [pgA, Pg.enc, List.map_cons, List.map_nil, datRA, dgA, dsA] at hdat hfun hfl hgood ⊢
  have h00 : ((0 : Int) != 0) = false := by decide
  (repeat' (first|refine Run.ct rfl ?_|((first|refine Run.reg mixed ?_|refine Run.condM ?_|refine XCall.det (hdat) ?_|(refine xo_gs rfl (fun h => ?_) (fun h => ?_) <;> try (cases h; done))) <;> try simp -implicitDefEqProofs only [h00, List.length_map, go_sem, Nat.reduceEqDiff, Nat.reduceBEq, Nat.reduceAdd, Nat.reduceLeDiff, reduceIte, reduceCtorEq])|(refine ⟨fun h => ?_, fun h => ?_⟩ <;> first|(cases h; done)|try simp only [h])|fail))
  have hdt : DtOk dt := (datGo_facts hgo).2.2.2.2 1000000 (fun d hd => by have := ((smallDE_c hval h).2 d hd).1; omega)
  have hrep := fun l => repeated_ok l σ
  have hbody := fun f hf => checkF_ok ds fs dt hdt f (hgood f hf).1 (hgood f hf).2.2 σ
  refine Run.loopA ?_
  refine Run.loopI ((fun (a1 : AV) (a2 : AV) (a5 : AV) (a23 : AV) (a24 : AV) => fun (i : Nat) => put 1 a1 (put 2 a2 (put 5 a5 (put 23 a23 (put 24 a24 (put 25 (.d (.int .i64 i)) U)))))) _ _ _ _ _) (fun _ => putL 1 [.d (.sl (ds.map DE.enc)), .d (.sl (fs.map FE.enc))] (putL 2 [.d (.int .i64 0), .d (.int .i64 0), .d (.int .i64 0)] (putL 5 [.d (.sl (ds.map DE.enc)), .d (.sl (fs.map FE.enc)), .d (.sl (dt.map Dat.enc))] E))) (fun _ => σ)
    (fun i => i ≤ fs.length ∧ ∀ k f, fs[k]? = some f → k < i → chkF fs dt k f = none) (fun i => fs.length - i) ?_ 0 ⟨by simp, fun k f _ hk => by omega⟩
  rintro i ⟨hi, hno⟩ ih
  by_cases hlt : i < fs.length
  · obtain ⟨f, hf⟩ := ex_at hlt
    have he := row_at (enc := FE.enc) hf
    have hw1 := wrap_succ (show i + 1 ≤ 9000000000000000000 by omega)
    have hgo2 : chkGo fs dt 0 fs = chkGo fs dt i (f :: fs.drop (i + 1)) := by
      conv => lhs; rw [show chkGo fs dt 0 fs = chkGo fs dt 0 (fs.take i ++ fs.drop i) by rw [List.take_append_drop], drop_at hf]
      rw [chkGo_app fs dt _ _ 0 (fun k g hg => ?_), Nat.zero_add, List.length_take, Nat.min_eq_left hi]
      rw [Nat.zero_add]
      rw [List.getElem?_take] at hg
      split at hg
      · exact hno k g hg (by assumption)
      · cases hg
    rw [chkGo] at hgo2
    have hfn := hfun f.name
    have hrp := hrep f.params
    have hbd := hbody f (List.mem_of_getElem? hf)
    obtain ⟨k, hk, hki⟩ := idxP_le (l := fnames fs) (s := f.name) (i := i) (by rw [fnames, List.getElem?_map, hf]; rfl)
    rw [hk] at hfn
    simp only [idxI] at hfn
    have hF : chkF fs dt i f = if k < i ∨ twiceB f.params = true then some (4, (i : Int), 0) else match errP (visP fs dt) (preP f.body f.params) with
        | some (k, c) => some (c, (i : Int), (k : Int))
        | none => none := by
      unfold chkF
      rw [hk]
      have : (some k ≠ some i ∨ twiceB f.params = true) ↔ (k < i ∨ twiceB f.params = true) := by
        simp only [ne_eq, Option.some.injEq]
        constructor
        · rintro (h | h)
          · exact .inl (by omega)
          · exact .inr h
        · rintro (h | h)
          · exact .inl (by omega)
          · exact .inr h
      simp only [this]
      split
      · rfl
      · cases errP (visP fs dt) (preP f.body f.params) <;> rfl
    rw [hF] at hgo2
    have hnx : chkF fs dt i f = none → ∀ k g, fs[k]? = some g → k < i + 1 → chkF fs dt k g = none := fun h0 k g hg hk => by
      rcases Nat.lt_or_ge k i with h | h
      · exact hno k g hg h
      · have : k = i := by omega
        subst this
        rw [hf] at hg; cases hg; exact h0
    rw [hF] at hnx
    clear hF
    obtain ⟨nm, ps, o, n, u, ns, ks, al⟩ := f
    simp only [FE.enc, Ex.enc_mk, feA, List.map_cons, List.map_nil] at he hfn hrp hbd hgo2 hnx
    by_cases hki2 : k < i
    · have hd : decide ((k : Int) < (i : Int)) = true := by simpa using hki2
      rw [if_pos (.inl hki2)] at hgo2
      simp only at hgo2
      rw [hgo2]
      (repeat' (first|refine Run.ct rfl ?_|((first|refine Run.reg mixed ?_|refine Run.condM ?_|refine Run.retR g_scope_Check (Heap.le_refl _) ?_|refine XCall.det (hfn) ?_|(refine xo_gs rfl (fun h => ?_) (fun h => ?_) <;> try (cases h; done))) <;> try simp -implicitDefEqProofs only [lt_t hlt, he, hd, go_sem, Nat.reduceEqDiff, Nat.reduceBEq, Nat.reduceAdd, Nat.reduceLeDiff, reduceIte, reduceCtorEq])|(refine ⟨fun h => ?_, fun h => ?_⟩ <;> first|(cases h; done)|try simp only [h])|fail))
    have hd : decide ((k : Int) < (i : Int)) = false := by simpa using hki2
    cases htw : twiceB ps with
    | true =>
      rw [htw] at hgo2 hrp
      rw [if_pos (.inr rfl)] at hgo2
      simp only at hgo2
      rw [hgo2]
      (repeat' (first|refine Run.ct rfl ?_|((first|refine Run.reg mixed ?_|refine Run.condM ?_|refine Run.retR g_scope_Check (Heap.le_refl _) ?_|refine XCall.det (hfn) ?_|refine XCall.det (hrp) ?_|(refine xo_gs rfl (fun h => ?_) (fun h => ?_) <;> try (cases h; done))) <;> try simp -implicitDefEqProofs only [lt_t hlt, he, hd, go_sem, Nat.reduceEqDiff, Nat.reduceBEq, Nat.reduceAdd, Nat.reduceLeDiff, reduceIte, reduceCtorEq])|(refine ⟨fun h => ?_, fun h => ?_⟩ <;> first|(cases h; done)|try simp only [h])|fail))
    | false =>
    rw [htw] at hgo2 hrp hnx
    rw [if_neg (by simp; omega)] at hgo2 hnx
    cases her : errP (visP fs dt) (preP (.mk o n u ns ks al) ps) with
    | some y =>
      obtain ⟨q, c⟩ := y
      rw [her] at hgo2 hbd
      simp only at hgo2 hbd
      rw [hgo2]
      have hcn : (c != 0) = true := by simpa using errP_ne her
      (repeat' (first|refine Run.ct rfl ?_|((first|refine Run.reg mixed ?_|refine Run.condM ?_|refine Run.retR g_scope_Check (Heap.le_refl _) ?_|refine XCall.det (hfn) ?_|refine XCall.det (hrp) ?_|refine XCall.det (hbd) ?_|(refine xo_gs rfl (fun h => ?_) (fun h => ?_) <;> try (cases h; done))) <;> try simp -implicitDefEqProofs only [lt_t hlt, he, hd, hcn, go_sem, Nat.reduceEqDiff, Nat.reduceBEq, Nat.reduceAdd, Nat.reduceLeDiff, reduceIte, reduceCtorEq])|(refine ⟨fun h => ?_, fun h => ?_⟩ <;> first|(cases h; done)|try simp only [h])|fail))
    | none =>
      rw [her] at hbd hnx
      simp only at hbd hnx
      (repeat' (first|refine Run.ct rfl ?_|((first|refine Run.reg mixed ?_|refine Run.condM ?_|refine XCall.det (hfn) ?_|refine XCall.det (hrp) ?_|refine XCall.det (hbd) ?_|(refine xo_gs rfl (fun h => ?_) (fun h => ?_) <;> try (cases h; done))) <;> try simp -implicitDefEqProofs only [lt_t hlt, he, hd, h00, hw1, go_sem, Nat.reduceEqDiff, Nat.reduceBEq, Nat.reduceAdd, Nat.reduceLeDiff, reduceIte, reduceCtorEq])|(refine ⟨fun h => ?_, fun h => ?_⟩ <;> first|(cases h; done)|try simp only [h])|fail))
      exact ih (i + 1) ⟨by omega, hnx trivial⟩ (by omega)
  · have hall : chkGo fs dt 0 fs = (0, 0, 0) := by
      have := chkGo_app fs dt [] fs 0 (fun k g hg => by rw [Nat.zero_add]; exact hno k g hg (by have := (List.getElem?_eq_some_iff.1 hg).1; omega))
      rw [List.append_nil] at this
      rw [this]; rfl
    rw [hall]
    (repeat' (first|refine Run.ct rfl ?_|((first|refine Run.reg mixed ?_|refine Run.condM ?_|refine Run.retR g_scope_Check (Heap.le_refl _) ?_|(refine xo_gs rfl (fun h => ?_) (fun h => ?_) <;> try (cases h; done))) <;> try simp -implicitDefEqProofs only [lt_f hlt, go_sem, Nat.reduceEqDiff, Nat.reduceBEq, Nat.reduceAdd, Nat.reduceLeDiff, reduceIte, reduceCtorEq])|(refine ⟨fun h => ?_, fun h => ?_⟩ <;> first|(cases h; done)|try simp only [h])|fail))
end Go.Ab

namespace Go.Ab
open Go.Proofs
def flagE (fs : List FE) (x : Ex × List Str) (fl : List Bool) : List Bool :=
  if x.1.op = 4 && !x.2.contains x.1.name then (match idxP (fnames fs) x.1.name with | some g => fl.set g true | none => fl) else fl
theorem flagE_len (fs : List FE) (x : Ex × List Str) (fl : List Bool) : (flagE fs x fl).length = fl.length := by
  unfold flagE
  split
  · split <;> simp
  · rfl
set_option maxRecDepth 4000 in
set_option maxHeartbeats 8000000 in
theorem Calls_1_ok (ds : List DE) (fs : List FE) (e : Ex) (sc : List Str) (fl : List Bool) (hfl : fl.length = fs.length) (hfs : fs.length ≤ 24) (jm jf jp eM : Nat) (σ : Heap) (hm : σ.blk jm = some (bools fl)) (hf : σ.blk jf = some [.ms jm fl.length 1 eM])
    (hp : σ.blk jp = some [.d (.sl (ds.map DE.enc)), .d (.sl (fs.map FE.enc))]) (hn : e.op = 4 → e.name ≠ []) (hidx : e.op = 4 → sc.contains e.name = false → (idxP (fnames fs) e.name).isSome = true) :
    ACalls Try.prog 31 [exA e, .d (bdL sc), .gp jf 0, .gp jp 0] σ (fun v σ' => v = .d (.int .i64 0) ∧ σ' = σ.setBlk jm (bools (flagE fs (e, sc) fl))) := by
  obtain ⟨o, n, u, ns, ks, al⟩ := e
  simp only [Ex.op, Ex.name] at hn hidx
  refine i_scope_Calls_1 (by simp) ?_
  rw [argF_4, exA, Ex.enc_mk]
  have hfun := function_ok ⟨ds, fs⟩ n σ
  simp only [pgA, Pg.enc, List.map_cons, List.map_nil] at hfun
  have hid := setBlk_same hm
  have hT : flagE fs (.mk o n u ns ks al, sc) fl = if decide (o = 4) && !sc.contains n then (match idxP (fnames fs) n with | some g => fl.set g true | none => fl) else fl := rfl
  by_cases h4 : o = 4
  · subst h4
    have hh := hasL_ok sc n (hn rfl) σ
    cases hc : sc.contains n with
    | true =>
      rw [hc] at hh hT
      simp only [Bool.not_true, Bool.and_false, Bool.false_eq_true, if_false] at hT
      rw [hT, hid]
      (repeat' (first|refine Run.ct rfl ?_|((first|refine Run.reg mixed ?_|refine Run.condM ?_|refine Run.retP g_scope_Calls_1 (Heap.le_refl _) ?_|refine XCall.det (hh) ?_|(refine xo_gs rfl (fun h => ?_) (fun h => ?_) <;> try (cases h; done))) <;> try simp -implicitDefEqProofs only [Int.reduceBEq, go_sem, Nat.reduceEqDiff, Nat.reduceBEq, Nat.reduceAdd, Nat.reduceLeDiff, reduceIte, reduceCtorEq])|(refine ⟨fun h => ?_, fun h => ?_⟩ <;> first|(cases h; done)|try simp only [h])|fail))
    | false =>
      rw [hc] at hh
      obtain ⟨g, hg⟩ := Option.isSome_iff_exists.1 (hidx rfl hc)
      obtain ⟨f, hff, _⟩ := fnames_at hg
      have hgl : g < fl.length := by rw [hfl]; exact (List.getElem?_eq_some_iff.1 hff).1
      rw [hc, hg] at hT
      rw [hg] at hfun
      simp only [idxI, Bool.not_false, Bool.and_true, decide_true, if_true] at hfun hT
      rw [hT]
      (repeat' (first|refine Run.ct rfl ?_|((first|refine Run.reg mixed ?_|refine Run.condM ?_|refine XCall.det (hh) ?_|refine XCall.det (hfun) ?_|(refine xo_gs rfl (fun h => ?_) (fun h => ?_) <;> try (cases h; done))) <;> try simp -implicitDefEqProofs only [Int.reduceBEq, hf, hp, hm, go_sem, Nat.reduceEqDiff, Nat.reduceBEq, Nat.reduceAdd, Nat.reduceLeDiff, reduceIte, reduceCtorEq])|(refine ⟨fun h => ?_, fun h => ?_⟩ <;> first|(cases h; done)|try simp only [h])|fail))
      have hixl : ((g : Int) < (fl.length : Int)) = True := by simp only [eq_iff_iff, iff_true]; omega
      have hbl : (g + 1 ≤ (bools fl).length) = True := by rw [bools_len]; simp only [eq_iff_iff, iff_true]; omega
      have hwr : List.take g (bools fl) ++ [AV.d (.bool true)] ++ List.drop (g + 1) (bools fl) = bools (fl.set g true) := by
        rw [← bools_wr true hgl]; rfl
      refine Run.regTC mixed (fun F' L' σ' => σ' = σ.setBlk jm (bools (fl.set g true))) ?_ ?_
      · simp -implicitDefEqProofs only [hf, hp, hm, go_sem, Nat.reduceEqDiff, Nat.reduceBEq, Nat.reduceAdd, Nat.reduceLeDiff, reduceIte, reduceCtorEq]
        refine ⟨?_, ?_⟩
        · skip
          refine XCall.mk rfl hfun ?_
          rintro _ _ ⟨rfl, rfl⟩
          simp -implicitDefEqProofs only [hf, hp, hm, hixl, hbl, Nat.mul_one, hwr, go_sem, Nat.reduceEqDiff, Nat.reduceBEq, Nat.reduceAdd, Nat.reduceLeDiff, reduceIte, reduceCtorEq]
        · skip
          refine XCall.mk rfl hfun ?_
          rintro _ _ ⟨rfl, rfl⟩
          simp -implicitDefEqProofs only [hf, hp, hm, hixl, hbl, Nat.mul_one, hwr, go_sem, Nat.reduceEqDiff, Nat.reduceBEq, Nat.reduceAdd, Nat.reduceLeDiff, reduceIte, reduceCtorEq]
      · rintro F' L' σ' rfl
        (repeat' (first|refine Run.ct rfl ?_|((first|refine Run.reg mixed ?_|refine Run.condM ?_|refine Run.retP g_scope_Calls_1 (Heap.le_refl _) ?_|(refine xo_gs rfl (fun h => ?_) (fun h => ?_) <;> try (cases h; done))) <;> try simp -implicitDefEqProofs only [go_sem, Nat.reduceEqDiff, Nat.reduceBEq, Nat.reduceAdd, Nat.reduceLeDiff, reduceIte, reduceCtorEq])|(refine ⟨fun h => ?_, fun h => ?_⟩ <;> first|(cases h; done)|try simp only [h])|fail))
  · have hb := beqF h4
    simp only [h4, decide_false, Bool.false_and, Bool.false_eq_true, if_false] at hT
    rw [hT, hid]
    (repeat' (first|refine Run.ct rfl ?_|((first|refine Run.reg mixed ?_|refine Run.condM ?_|refine Run.retP g_scope_Calls_1 (Heap.le_refl _) ?_|(refine xo_gs rfl (fun h => ?_) (fun h => ?_) <;> try (cases h; done))) <;> try simp -implicitDefEqProofs only [hb, go_sem, Nat.reduceEqDiff, Nat.reduceBEq, Nat.reduceAdd, Nat.reduceLeDiff, reduceIte, reduceCtorEq])|(refine ⟨fun h => ?_, fun h => ?_⟩ <;> first|(cases h; done)|try simp only [h])|fail))
end Go.Ab
