/- The guards on programs: Names, written, expr. Conditions: none. -/
import Derived.Test.YtlckhmkeihbhmaaXCdP
set_option linter.unusedSimpArgs false
namespace Go.Ab
open Go.Proofs
def nmsK (l : List Str) : Bool := l.all fun s => decide (s.length ≤ 40)
theorem gt40 (n : Nat) : decide ((40 : Int) < (n : Int)) = decide (40 < n) := decide_eq_decide.2 (by omega)
theorem gt10 (n : Nat) : decide ((10 : Int) < (n : Int)) = decide (10 < n) := decide_eq_decide.2 (by omega)
theorem le10 (n : Nat) : decide ((n : Int) ≤ (10 : Int)) = decide (n ≤ 10) := decide_eq_decide.2 (by omega)
theorem keep_Names_ok (l : List Str) (σ : Heap) : ACalls Try.prog 12 [.d (.sl (l.map sRow)), .d (.int .i64 10)] σ (fun v σ' => v = .d (.bool (decide (l.length ≤ 10) && nmsK l)) ∧ σ' = σ) := by
  refine i_keep_Names (by simp) ?_
  rw [argF_2]
  refine Run.slot 0 (fun hb0 => ?_)
  simp only [put_get, if_true, AV.lenOk, List.length_map] at hb0
  (repeat' (first|refine Run.ct rfl ?_|((first|refine Run.reg mixed ?_|refine Run.condM ?_|(refine xo_gs rfl (fun h => ?_) (fun h => ?_) <;> try (cases h; done))) <;> try simp -implicitDefEqProofs only [List.length_map, go_sem, Nat.reduceEqDiff, Nat.reduceBEq, Nat.reduceAdd, Nat.reduceLeDiff, reduceIte, reduceCtorEq])|(refine ⟨fun h => ?_, fun h => ?_⟩ <;> first|(cases h; done)|try simp only [h])|fail))
  refine Run.loopA ?_
  refine Run.loopI ((fun (a0 : AV) (a1 : AV) => fun (i : Nat) => put 0 a0 (put 1 a1 (put 5 (.d (.int .i64 i)) U))) _ _) (fun _ => E) (fun _ => σ) (fun i => i ≤ l.length ∧ i ≤ 11 ∧ nmsK (l.take i) = true) (fun i => l.length - i) ?_ 0 ⟨by simp, by simp, by simp [nmsK]⟩
  rintro i ⟨hi, h11, hno⟩ ih
  by_cases hlt : i < l.length
  · obtain ⟨x, hx⟩ := ex_at hlt
    have he := row_at (enc := sRow) hx
    simp only [sRow] at he
    have hw1 : IntKind.i64.wrap ((i : Int) + 1) = ((i + 1 : Nat) : Int) := by rw [wrap_pos (by omega) (by omega)]; omega
    by_cases h10 : i ≤ 10
    · by_cases hs : 40 < x.length
      · have hf : (decide (l.length ≤ 10) && nmsK l) = false := by
          rw [Bool.and_eq_false_iff]; right
          rw [Bool.eq_false_iff]
          intro h
          rw [nmsK, List.all_eq_true] at h
          have := h x (List.mem_of_getElem? hx)
          rw [decide_eq_true_eq] at this; omega
        (repeat' (first|refine Run.ct rfl ?_|((first|refine Run.reg mixed ?_|refine Run.condM ?_|refine Run.retP g_keep_Names (Heap.le_refl _) ?_|(refine xo_gs rfl (fun h => ?_) (fun h => ?_) <;> try (cases h; done))) <;> try simp -implicitDefEqProofs only [lt_t hlt, he, hw1, le10, decide_eq_true h10, gt40, decide_eq_true hs, List.length_map, go_sem, Nat.reduceEqDiff, Nat.reduceBEq, Nat.reduceAdd, Nat.reduceLeDiff, reduceIte, reduceCtorEq])|(refine ⟨fun h => ?_, fun h => ?_⟩ <;> first|(cases h; done)|try simp only [h])|fail))
        rw [hf]
      · (repeat' (first|refine Run.ct rfl ?_|((first|refine Run.reg mixed ?_|refine Run.condM ?_|(refine xo_gs rfl (fun h => ?_) (fun h => ?_) <;> try (cases h; done))) <;> try simp -implicitDefEqProofs only [lt_t hlt, he, hw1, le10, decide_eq_true h10, gt40, decide_eq_false hs, List.length_map, go_sem, Nat.reduceEqDiff, Nat.reduceBEq, Nat.reduceAdd, Nat.reduceLeDiff, reduceIte, reduceCtorEq])|(refine ⟨fun h => ?_, fun h => ?_⟩ <;> first|(cases h; done)|try simp only [h])|fail))
        exact ih (i + 1) ⟨by omega, by omega, by
          rw [take_snoc hx, nmsK, List.all_append]
          rw [nmsK] at hno
          rw [hno]; simp; omega⟩ (by omega)
    · have hgt : decide (l.length ≤ 10) = false := decide_eq_false (by omega)
      (repeat' (first|refine Run.ct rfl ?_|((first|refine Run.reg mixed ?_|refine Run.condM ?_|refine Run.retP g_keep_Names (Heap.le_refl _) ?_|(refine xo_gs rfl (fun h => ?_) (fun h => ?_) <;> try (cases h; done))) <;> try simp -implicitDefEqProofs only [lt_t hlt, he, hw1, le10, decide_eq_false h10, List.length_map, hgt, go_sem, Nat.reduceEqDiff, Nat.reduceBEq, Nat.reduceAdd, Nat.reduceLeDiff, reduceIte, reduceCtorEq])|(refine ⟨fun h => ?_, fun h => ?_⟩ <;> first|(cases h; done)|try simp only [h])|fail))
      try rw [Bool.false_and]
  · have hile : i = l.length := by omega
    subst hile
    rw [List.take_of_length_le (by omega)] at hno
    (repeat' (first|refine Run.ct rfl ?_|((first|refine Run.reg mixed ?_|refine Run.condM ?_|refine Run.retP g_keep_Names (Heap.le_refl _) ?_|(refine xo_gs rfl (fun h => ?_) (fun h => ?_) <;> try (cases h; done))) <;> try simp -implicitDefEqProofs only [lt_f hlt, le10, List.length_map, go_sem, Nat.reduceEqDiff, Nat.reduceBEq, Nat.reduceAdd, Nat.reduceLeDiff, reduceIte, reduceCtorEq])|(refine ⟨fun h => ?_, fun h => ?_⟩ <;> first|(cases h; done)|try simp only [h])|fail))
    rw [hno, Bool.and_true]
mutual
def TE.sm : TE → Prop
  | .mk _ n l => n.length ≤ 40 ∧ TE.sms l
def TE.sms : List TE → Prop
  | [] => True
  | t :: l => t.sm ∧ TE.sms l
end
def nmsP (l : List Str) : Prop := l.length ≤ 10 ∧ ∀ s ∈ l, s.length ≤ 40
mutual
def Ex.sm : Ex → Prop
  | .mk _ n _ ns ks al => n.length ≤ 40 ∧ nmsP ns ∧ Ex.sms ks ∧ Al.sms al
def Ex.sms : List Ex → Prop
  | [] => True
  | t :: l => t.sm ∧ Ex.sms l
def Al.sm : Al → Prop
  | .mk c vs b => c.length ≤ 40 ∧ nmsP vs ∧ b.sm
def Al.sms : List Al → Prop
  | [] => True
  | t :: l => t.sm ∧ Al.sms l
end
theorem TE.sms_mem : ∀ {l : List TE}, TE.sms l ↔ ∀ t ∈ l, t.sm
  | [] => by simp [TE.sms]
  | t :: l => by simp [TE.sms, TE.sms_mem (l := l)]
theorem Ex.sms_mem : ∀ {l : List Ex}, Ex.sms l ↔ ∀ t ∈ l, t.sm
  | [] => by simp [Ex.sms]
  | t :: l => by simp [Ex.sms, Ex.sms_mem (l := l)]
theorem Al.sms_mem : ∀ {l : List Al}, Al.sms l ↔ ∀ t ∈ l, t.sm
  | [] => by simp [Al.sms]
  | t :: l => by simp [Al.sms, Al.sms_mem (l := l)]
theorem nmsK_P {l : List Str} (h : (decide (l.length ≤ 10) && nmsK l) = true) : nmsP l := by
  simp only [nmsK, Bool.and_eq_true, decide_eq_true_eq, List.all_eq_true] at h; exact h
theorem mem_take_snoc {α : Type} {p : α → Prop} {l : List α} {i : Nat} {x : α} (h : ∀ t ∈ l.take i, p t) (hx : l[i]? = some x) (hp : p x) : ∀ t ∈ l.take (i + 1), p t := by
  intro t ht
  rw [take_snoc hx, List.mem_append, List.mem_singleton] at ht
  rcases ht with ht | rfl
  · exact h t ht
  · exact hp
theorem TE.sizes_take {l : List TE} {i : Nat} {x : TE} (h : l[i]? = some x) : TE.sizes (l.take (i + 1)) = TE.sizes (l.take i) + x.size := by
  rw [take_snoc h, TE.sizes_append]; simp [TE.sizes]
theorem Ex.sizes_take {l : List Ex} {i : Nat} {x : Ex} (h : l[i]? = some x) : Ex.sizes (l.take (i + 1)) = Ex.sizes (l.take i) + x.size := by
  rw [take_snoc h, Ex.sizes_append]; simp [Ex.sizes]
theorem Al.sizes_take {l : List Al} {i : Nat} {x : Al} (h : l[i]? = some x) : Al.sizes (l.take (i + 1)) = Al.sizes (l.take i) + x.size := by
  rw [take_snoc h, Al.sizes_append]; simp [Al.sizes]
def KRes (good : Prop) (size q : Nat) (b : Bool) (z : Int) : Prop := b = true → good ∧ ∃ q' : Nat, z = q' ∧ size + q' = q
theorem neg_t {z : Int} (h : z < 0) : decide (z < 0) = true := decide_eq_true h
theorem neg_f {q : Nat} : decide ((q : Int) < 0) = false := decide_eq_false (by omega)
theorem wrap_dec {q : Nat} (h : q ≤ 1000) : IntKind.i64.wrap ((q : Int) - 1) = (q : Int) - 1 := by
  rcases Nat.eq_zero_or_pos q with rfl | hq
  · decide
  · rw [wrap_pos (by omega) (by omega)]
set_option maxHeartbeats 4000000 in
theorem keep_written_ok (j : Nat) : ∀ (N : Nat) (t : TE) (q : Nat) (σ : Heap), t.size ≤ N → q ≤ 1000 → σ.blk j = some [.d (.int .i64 q)] →
    ACalls Try.prog 13 [teA t, .gp j 0] σ (fun v σ' => ∃ b z, (v = .d (.bool b) ∧ σ' = σ.setBlk j [.d (.int .i64 z)]) ∧ KRes t.sm t.size q b z) := by
  intro N
  induction N with
  | zero => intro t q σ h; have := TE.size_pos t; omega
  | succ N ihN =>
  rintro ⟨k, n, l⟩ q σ hN hq hj
  simp only [TE.size] at hN
  refine i_keep_written (by simp) ?_
  rw [argF_2, teA, TE.enc_mk]
  simp only [List.map_cons, List.map_nil]
  generalize hQ : (fun (v : AV) (σ' : Heap) => ∃ b z, (v = .d (.bool b) ∧ σ' = σ.setBlk j [.d (.int .i64 z)]) ∧ KRes (TE.mk k n l).sm (TE.mk k n l).size q b z) = Q
  have hno : ∀ z, Q (.d (.bool false)) (σ.setBlk j [.d (.int .i64 z)]) := fun z => by rw [← hQ]; exact ⟨false, z, ⟨rfl, rfl⟩, fun h => by cases h⟩
  have hyes : ∀ q' : Nat, n.length ≤ 40 → (∀ t ∈ l, t.sm) → 1 + TE.sizes l + q' = q → Q (.d (.bool true)) (σ.setBlk j [.d (.int .i64 q')]) := fun q' h1 h2 h3 => by
    rw [← hQ]; exact ⟨true, q', ⟨rfl, rfl⟩, fun _ => ⟨by rw [TE.sm, TE.sms_mem]; exact ⟨h1, h2⟩, q', rfl, by rw [TE.size]; exact h3⟩⟩
  clear hQ
  rcases Nat.eq_zero_or_pos q with rfl | hq0
  · have hm1 : IntKind.i64.wrap (((0 : Nat) : Int) - 1) = -1 := by decide
    have hn1 : decide ((-1 : Int) < 0) = true := by decide
    (repeat' (first|refine Run.ct rfl ?_|((first|refine Run.reg mixed ?_|refine Run.condM ?_|(refine Run.retP g_keep_written (Heap.le_refl _) ?_)|(refine xo_gs rfl (fun h => ?_) (fun h => ?_) <;> try (cases h; done))) <;> try simp -implicitDefEqProofs only [hj, hm1, hn1, setBlk_get, List.take, List.drop, List.append_nil, List.nil_append, go_sem, Nat.reduceEqDiff, Nat.reduceBEq, Nat.reduceAdd, Nat.reduceLeDiff, reduceIte, reduceCtorEq])|(refine ⟨fun h => ?_, fun h => ?_⟩ <;> first|(cases h; done)|try simp only [h])|fail))
    exact hno _
  obtain ⟨q, rfl⟩ : ∃ m, q = m + 1 := ⟨q - 1, by omega⟩
  have hm1 : IntKind.i64.wrap (((q + 1 : Nat) : Int) - 1) = (q : Int) := by rw [wrap_pos (by omega) (by omega)]; omega
  by_cases h40 : 40 < n.length
  · (repeat' (first|refine Run.ct rfl ?_|((first|refine Run.reg mixed ?_|refine Run.condM ?_|(refine Run.retP g_keep_written (Heap.le_refl _) ?_)|(refine xo_gs rfl (fun h => ?_) (fun h => ?_) <;> try (cases h; done))) <;> try simp -implicitDefEqProofs only [hj, hm1, neg_f, gt40, decide_eq_true h40, setBlk_get, List.take, List.drop, List.append_nil, List.nil_append, go_sem, Nat.reduceEqDiff, Nat.reduceBEq, Nat.reduceAdd, Nat.reduceLeDiff, reduceIte, reduceCtorEq])|(refine ⟨fun h => ?_, fun h => ?_⟩ <;> first|(cases h; done)|try simp only [h])|fail))
    exact hno _
  (repeat' (first|refine Run.ct rfl ?_|((first|refine Run.reg mixed ?_|refine Run.condM ?_|(refine xo_gs rfl (fun h => ?_) (fun h => ?_) <;> try (cases h; done))) <;> try simp -implicitDefEqProofs only [hj, hm1, neg_f, gt40, decide_eq_false h40, setBlk_get, List.take, List.drop, List.append_nil, List.nil_append, go_sem, Nat.reduceEqDiff, Nat.reduceBEq, Nat.reduceAdd, Nat.reduceLeDiff, reduceIte, reduceCtorEq])|(refine ⟨fun h => ?_, fun h => ?_⟩ <;> first|(cases h; done)|try simp only [h])|fail))
  refine Run.loopA ?_
  refine Run.loopI ((fun (a1 : AV) (a2 : AV) => fun (y : Nat × Nat) => put 1 a1 (put 2 a2 (put 5 (.d (.int .i64 y.1)) U))) _ _) (fun _ => putL 2 [.d (.int .i64 k), .d (.str n), .d (.sl (l.map TE.enc))] E) (fun y => σ.setBlk j [.d (.int .i64 y.2)])
    (fun y => y.1 ≤ l.length ∧ (∀ t ∈ l.take y.1, t.sm) ∧ TE.sizes (l.take y.1) + y.2 = q) (fun y => l.length - y.1) ?_ (0, q) ⟨by simp, by simp, by simp [TE.sizes]⟩
  rintro ⟨i, q'⟩ ⟨hi, hsm, hsz⟩ ih
  simp only at hi hsm hsz
  have hil := TE.len_sizes (l.take i)
  rw [List.length_take, Nat.min_eq_left hi] at hil
  by_cases hlt : i < l.length
  · obtain ⟨x, hx⟩ := ex_at hlt
    have he := row_at (enc := TE.enc) hx
    have hw1 := wrap_succ (show i + 1 ≤ 9000000000000000000 by omega)
    have hxs := TE.mem_sz (List.mem_of_getElem? hx)
    have hc := ihN x q' (σ.setBlk j [.d (.int .i64 q')]) (by omega) (by omega) (by rw [setBlk_get, if_pos rfl])
    have hst := TE.sizes_take hx
    have hms := fun hp => mem_take_snoc (p := TE.sm) hsm hx hp
    obtain ⟨xk, xn, xl⟩ := x
    simp only [teA, TE.enc_mk, List.map_cons, List.map_nil] at he hc
    (repeat' (first|refine Run.ct rfl ?_|((first|refine Run.reg mixed ?_|refine Run.condM ?_|(refine XCall.mk rfl hc ?_; rintro v σ' ⟨b, z, ⟨rfl, rfl⟩, hres⟩; cases b <;> rw [setBlk_set])|(refine Run.retP g_keep_written (Heap.le_refl _) ?_)|(refine xo_gs rfl (fun h => ?_) (fun h => ?_) <;> try (cases h; done))) <;> try simp -implicitDefEqProofs only [lt_t hlt, he, hw1, List.length_map, go_sem, Nat.reduceEqDiff, Nat.reduceBEq, Nat.reduceAdd, Nat.reduceLeDiff, reduceIte, reduceCtorEq])|(refine ⟨fun h => ?_, fun h => ?_⟩ <;> first|(cases h; done)|try simp only [h])|fail))
    · exact hno z
    · obtain ⟨g1, q2, rfl, g2⟩ := hres rfl
      exact ih (i + 1, q2) ⟨by simp only; omega, hms g1, by simp only; omega⟩ (by simp only; omega)
  · rw [List.take_of_length_le (by omega)] at hsm hsz
    (repeat' (first|refine Run.ct rfl ?_|((first|refine Run.reg mixed ?_|refine Run.condM ?_|(refine Run.retP g_keep_written (Heap.le_refl _) ?_)|(refine xo_gs rfl (fun h => ?_) (fun h => ?_) <;> try (cases h; done))) <;> try simp -implicitDefEqProofs only [lt_f hlt, List.length_map, go_sem, Nat.reduceEqDiff, Nat.reduceBEq, Nat.reduceAdd, Nat.reduceLeDiff, reduceIte, reduceCtorEq])|(refine ⟨fun h => ?_, fun h => ?_⟩ <;> first|(cases h; done)|try simp only [h])|fail))
    exact hyes q' (by omega) hsm (by omega)
set_option maxRecDepth 4000 in
set_option maxHeartbeats 8000000 in
theorem keep_expr_ok (j : Nat) : ∀ (N : Nat) (e : Ex) (q : Nat) (σ : Heap), e.size ≤ N → q ≤ 1000 → σ.blk j = some [.d (.int .i64 q)] →
    ACalls Try.prog 14 [exA e, .gp j 0] σ (fun v σ' => ∃ b z, (v = .d (.bool b) ∧ σ' = σ.setBlk j [.d (.int .i64 z)]) ∧ KRes e.sm e.size q b z) := by
  intro N
  induction N with
  | zero => intro t q σ h; have := Ex.size_pos t; omega
  | succ N ihN =>
  rintro ⟨o, n, u, ns, ks, al⟩ q σ hN hq hj
  simp only [Ex.size] at hN
  refine i_keep_expr (by simp) ?_
  rw [argF_2, exA, Ex.enc_mk]
  simp only [List.map_cons, List.map_nil]
  generalize hQ : (fun (v : AV) (σ' : Heap) => ∃ b z, (v = .d (.bool b) ∧ σ' = σ.setBlk j [.d (.int .i64 z)]) ∧ KRes (Ex.mk o n u ns ks al).sm (Ex.mk o n u ns ks al).size q b z) = Q
  have hno : ∀ z, Q (.d (.bool false)) (σ.setBlk j [.d (.int .i64 z)]) := fun z => by rw [← hQ]; exact ⟨false, z, ⟨rfl, rfl⟩, fun h => by cases h⟩
  have hyes : ∀ q' : Nat, n.length ≤ 40 → nmsP ns → (∀ t ∈ ks, t.sm) → (∀ t ∈ al, t.sm) → 1 + Ex.sizes ks + Al.sizes al + q' = q → Q (.d (.bool true)) (σ.setBlk j [.d (.int .i64 q')]) := fun q' h1 h2 h3 h4 h5 => by
    rw [← hQ]; exact ⟨true, q', ⟨rfl, rfl⟩, fun _ => ⟨by rw [Ex.sm, Ex.sms_mem, Al.sms_mem]; exact ⟨h1, h2, h3, h4⟩, q', rfl, by rw [Ex.size]; exact h5⟩⟩
  clear hQ
  have hnm := fun σ => keep_Names_ok ns σ
  rcases Nat.eq_zero_or_pos q with rfl | hq0
  · have hm1 : IntKind.i64.wrap (((0 : Nat) : Int) - 1) = -1 := by decide
    have hn1 : decide ((-1 : Int) < 0) = true := by decide
    (repeat' (first|refine Run.ct rfl ?_|((first|refine Run.reg mixed ?_|refine Run.condM ?_|(refine Run.retP g_keep_expr (Heap.le_refl _) ?_)|(refine xo_gs rfl (fun h => ?_) (fun h => ?_) <;> try (cases h; done))) <;> try simp -implicitDefEqProofs only [hj, hm1, hn1, setBlk_get, List.take, List.drop, List.append_nil, List.nil_append, go_sem, Nat.reduceEqDiff, Nat.reduceBEq, Nat.reduceAdd, Nat.reduceLeDiff, reduceIte, reduceCtorEq])|(refine ⟨fun h => ?_, fun h => ?_⟩ <;> first|(cases h; done)|try simp only [h])|fail))
    exact hno _
  obtain ⟨q, rfl⟩ : ∃ m, q = m + 1 := ⟨q - 1, by omega⟩
  have hm1 : IntKind.i64.wrap (((q + 1 : Nat) : Int) - 1) = (q : Int) := by rw [wrap_pos (by omega) (by omega)]; omega
  by_cases h40 : 40 < n.length
  · (repeat' (first|refine Run.ct rfl ?_|((first|refine Run.reg mixed ?_|refine Run.condM ?_|(refine Run.retP g_keep_expr (Heap.le_refl _) ?_)|(refine xo_gs rfl (fun h => ?_) (fun h => ?_) <;> try (cases h; done))) <;> try simp -implicitDefEqProofs only [hj, hm1, neg_f, gt40, decide_eq_true h40, setBlk_get, List.take, List.drop, List.append_nil, List.nil_append, go_sem, Nat.reduceEqDiff, Nat.reduceBEq, Nat.reduceAdd, Nat.reduceLeDiff, reduceIte, reduceCtorEq])|(refine ⟨fun h => ?_, fun h => ?_⟩ <;> first|(cases h; done)|try simp only [h])|fail))
    exact hno _
  cases hnk : (decide (ns.length ≤ 10) && nmsK ns) with
  | false =>
    rw [hnk] at hnm
    (repeat' (first|refine Run.ct rfl ?_|((first|refine Run.reg mixed ?_|refine Run.condM ?_|(refine Run.retP g_keep_expr (Heap.le_refl _) ?_)|refine XCall.det (hnm _) ?_|(refine xo_gs rfl (fun h => ?_) (fun h => ?_) <;> try (cases h; done))) <;> try simp -implicitDefEqProofs only [hj, hm1, neg_f, gt40, decide_eq_false h40, setBlk_get, List.take, List.drop, List.append_nil, List.nil_append, go_sem, Nat.reduceEqDiff, Nat.reduceBEq, Nat.reduceAdd, Nat.reduceLeDiff, reduceIte, reduceCtorEq])|(refine ⟨fun h => ?_, fun h => ?_⟩ <;> first|(cases h; done)|try simp only [h])|fail))
    exact hno _
  | true =>
  rw [hnk] at hnm
  by_cases hk10 : 10 < ks.length
  · (repeat' (first|refine Run.ct rfl ?_|((first|refine Run.reg mixed ?_|refine Run.condM ?_|(refine Run.retP g_keep_expr (Heap.le_refl _) ?_)|refine XCall.det (hnm _) ?_|(refine xo_gs rfl (fun h => ?_) (fun h => ?_) <;> try (cases h; done))) <;> try simp -implicitDefEqProofs only [hj, hm1, neg_f, gt40, decide_eq_false h40, gt10, List.length_map, decide_eq_true hk10, setBlk_get, List.take, List.drop, List.append_nil, List.nil_append, go_sem, Nat.reduceEqDiff, Nat.reduceBEq, Nat.reduceAdd, Nat.reduceLeDiff, reduceIte, reduceCtorEq])|(refine ⟨fun h => ?_, fun h => ?_⟩ <;> first|(cases h; done)|try simp only [h])|fail))
    exact hno _
  by_cases ha10 : 10 < al.length
  · (repeat' (first|refine Run.ct rfl ?_|((first|refine Run.reg mixed ?_|refine Run.condM ?_|(refine Run.retP g_keep_expr (Heap.le_refl _) ?_)|refine XCall.det (hnm _) ?_|(refine xo_gs rfl (fun h => ?_) (fun h => ?_) <;> try (cases h; done))) <;> try simp -implicitDefEqProofs only [hj, hm1, neg_f, gt40, decide_eq_false h40, gt10, List.length_map, decide_eq_false hk10, decide_eq_true ha10, setBlk_get, List.take, List.drop, List.append_nil, List.nil_append, go_sem, Nat.reduceEqDiff, Nat.reduceBEq, Nat.reduceAdd, Nat.reduceLeDiff, reduceIte, reduceCtorEq])|(refine ⟨fun h => ?_, fun h => ?_⟩ <;> first|(cases h; done)|try simp only [h])|fail))
    exact hno _
  (repeat' (first|refine Run.ct rfl ?_|((first|refine Run.reg mixed ?_|refine Run.condM ?_|refine XCall.det (hnm _) ?_|(refine xo_gs rfl (fun h => ?_) (fun h => ?_) <;> try (cases h; done))) <;> try simp -implicitDefEqProofs only [hj, hm1, neg_f, gt40, decide_eq_false h40, gt10, List.length_map, decide_eq_false hk10, decide_eq_false ha10, setBlk_get, List.take, List.drop, List.append_nil, List.nil_append, go_sem, Nat.reduceEqDiff, Nat.reduceBEq, Nat.reduceAdd, Nat.reduceLeDiff, reduceIte, reduceCtorEq])|(refine ⟨fun h => ?_, fun h => ?_⟩ <;> first|(cases h; done)|try simp only [h])|fail))
  refine Run.loopA ?_
  refine Run.loopI ((fun (a1 : AV) (a2 : AV) => fun (y : Nat × Nat) => put 1 a1 (put 2 a2 (put 5 (.d (.int .i64 y.1)) U))) _ _) (fun _ => putL 2 [.d (.int .i64 o), .d (.str n), .d (.int .i64 u), .d (.sl (ns.map sRow)), .d (.sl (ks.map Ex.enc)), .d (.sl (al.map Al.enc))] E) (fun y => σ.setBlk j [.d (.int .i64 y.2)])
    (fun y => y.1 ≤ ks.length ∧ (∀ t ∈ ks.take y.1, t.sm) ∧ Ex.sizes (ks.take y.1) + y.2 = q) (fun y => ks.length - y.1) ?_ (0, q) ⟨by simp, by simp, by simp [Ex.sizes]⟩
  rintro ⟨i, q'⟩ ⟨hi, hsm, hsz⟩ ih
  simp only at hi hsm hsz
  by_cases hlt : i < ks.length
  · obtain ⟨x, hx⟩ := ex_at hlt
    have he := row_at (enc := Ex.enc) hx
    have hw1 := wrap_succ (show i + 1 ≤ 9000000000000000000 by omega)
    have hxs := Ex.mem_sz (List.mem_of_getElem? hx)
    have hc := ihN x q' (σ.setBlk j [.d (.int .i64 q')]) (by omega) (by omega) (by rw [setBlk_get, if_pos rfl])
    have hst := Ex.sizes_take hx
    have hms := fun hp => mem_take_snoc (p := Ex.sm) hsm hx hp
    obtain ⟨xo, xn, xu, xns, xks, xal⟩ := x
    simp only [exA, Ex.enc_mk, List.map_cons, List.map_nil] at he hc
    (repeat' (first|refine Run.ct rfl ?_|((first|refine Run.reg mixed ?_|refine Run.condM ?_|(refine XCall.mk rfl hc ?_; rintro v σ' ⟨b, z, ⟨rfl, rfl⟩, hres⟩; cases b <;> rw [setBlk_set])|(refine Run.retP g_keep_expr (Heap.le_refl _) ?_)|(refine xo_gs rfl (fun h => ?_) (fun h => ?_) <;> try (cases h; done))) <;> try simp -implicitDefEqProofs only [lt_t hlt, he, hw1, List.length_map, go_sem, Nat.reduceEqDiff, Nat.reduceBEq, Nat.reduceAdd, Nat.reduceLeDiff, reduceIte, reduceCtorEq])|(refine ⟨fun h => ?_, fun h => ?_⟩ <;> first|(cases h; done)|try simp only [h])|fail))
    · exact hno z
    · obtain ⟨g1, q2, rfl, g2⟩ := hres rfl
      exact ih (i + 1, q2) ⟨by simp only; omega, hms g1, by simp only; omega⟩ (by simp only; omega)
  · rw [List.take_of_length_le (by omega)] at hsm hsz
    clear ih
    (repeat' (first|refine Run.ct rfl ?_|((first|refine Run.reg mixed ?_|refine Run.condM ?_|(refine xo_gs rfl (fun h => ?_) (fun h => ?_) <;> try (cases h; done))) <;> try simp -implicitDefEqProofs only [lt_f hlt, List.length_map, go_sem, Nat.reduceEqDiff, Nat.reduceBEq, Nat.reduceAdd, Nat.reduceLeDiff, reduceIte, reduceCtorEq])|(refine ⟨fun h => ?_, fun h => ?_⟩ <;> first|(cases h; done)|try simp only [h])|fail))
    refine Run.loopA ?_
    refine Run.loopI ((fun (a1 : AV) (a2 : AV) => fun (y : Nat × Nat) => put 1 a1 (put 2 a2 (put 6 (.d (.int .i64 y.1)) U))) _ _) (fun _ => putL 2 [.d (.int .i64 o), .d (.str n), .d (.int .i64 u), .d (.sl (ns.map sRow)), .d (.sl (ks.map Ex.enc)), .d (.sl (al.map Al.enc))] E) (fun y => σ.setBlk j [.d (.int .i64 y.2)])
      (fun y => y.1 ≤ al.length ∧ (∀ t ∈ al.take y.1, t.sm) ∧ Al.sizes (al.take y.1) + y.2 = q') (fun y => al.length - y.1) ?_ (0, q') ⟨by simp, by simp, by simp [Al.sizes]⟩
    rintro ⟨i2, q2⟩ ⟨hi2, hsm2, hsz2⟩ ih
    simp only at hi2 hsm2 hsz2
    by_cases hlt : i2 < al.length
    · obtain ⟨x, hx⟩ := ex_at hlt
      have he := row_at (enc := Al.enc) hx
      have hw1 := wrap_succ (show i2 + 1 ≤ 9000000000000000000 by omega)
      have hxs := Al.mem_sz (List.mem_of_getElem? hx)
      have hst := Al.sizes_take hx
      have hms := fun hp => mem_take_snoc (p := Al.sm) hsm2 hx hp
      obtain ⟨xc, xvs, xb⟩ := x
      rw [Al.size] at hxs hst
      have hc := ihN xb q2 (σ.setBlk j [.d (.int .i64 q2)]) (by omega) (by omega) (by rw [setBlk_get, if_pos rfl])
      have hnv := fun σ => keep_Names_ok xvs σ
      obtain ⟨xo, xn, xu, xns, xks, xal⟩ := xb
      simp only [exA, Al.enc_mk, Ex.enc_mk, List.map_cons, List.map_nil] at he hc
      by_cases hc40 : 40 < xc.length
      · (repeat' (first|refine Run.ct rfl ?_|((first|refine Run.reg mixed ?_|refine Run.condM ?_|(refine Run.retP g_keep_expr (Heap.le_refl _) ?_)|(refine xo_gs rfl (fun h => ?_) (fun h => ?_) <;> try (cases h; done))) <;> try simp -implicitDefEqProofs only [lt_t hlt, he, gt40, decide_eq_true hc40, List.length_map, go_sem, Nat.reduceEqDiff, Nat.reduceBEq, Nat.reduceAdd, Nat.reduceLeDiff, reduceIte, reduceCtorEq])|(refine ⟨fun h => ?_, fun h => ?_⟩ <;> first|(cases h; done)|try simp only [h])|fail))
        exact hno _
      cases hvk : (decide (xvs.length ≤ 10) && nmsK xvs) with
      | false =>
        rw [hvk] at hnv
        (repeat' (first|refine Run.ct rfl ?_|((first|refine Run.reg mixed ?_|refine Run.condM ?_|(refine Run.retP g_keep_expr (Heap.le_refl _) ?_)|refine XCall.det (hnv _) ?_|(refine xo_gs rfl (fun h => ?_) (fun h => ?_) <;> try (cases h; done))) <;> try simp -implicitDefEqProofs only [lt_t hlt, he, gt40, decide_eq_false hc40, List.length_map, go_sem, Nat.reduceEqDiff, Nat.reduceBEq, Nat.reduceAdd, Nat.reduceLeDiff, reduceIte, reduceCtorEq])|(refine ⟨fun h => ?_, fun h => ?_⟩ <;> first|(cases h; done)|try simp only [h])|fail))
        exact hno _
      | true =>
      rw [hvk] at hnv
      (repeat' (first|refine Run.ct rfl ?_|((first|refine Run.reg mixed ?_|refine Run.condM ?_|(refine XCall.mk rfl hc ?_; rintro v σ' ⟨b, z, ⟨rfl, rfl⟩, hres⟩; cases b <;> rw [setBlk_set])|(refine Run.retP g_keep_expr (Heap.le_refl _) ?_)|refine XCall.det (hnv _) ?_|(refine xo_gs rfl (fun h => ?_) (fun h => ?_) <;> try (cases h; done))) <;> try simp -implicitDefEqProofs only [lt_t hlt, he, hw1, gt40, decide_eq_false hc40, List.length_map, go_sem, Nat.reduceEqDiff, Nat.reduceBEq, Nat.reduceAdd, Nat.reduceLeDiff, reduceIte, reduceCtorEq])|(refine ⟨fun h => ?_, fun h => ?_⟩ <;> first|(cases h; done)|try simp only [h])|fail))
      · exact hno z
      · obtain ⟨g1, q3, rfl, g2⟩ := hres rfl
        exact ih (i2 + 1, q3) ⟨by simp only; omega, hms (by rw [Al.sm]; exact ⟨by omega, nmsK_P hvk, g1⟩), by simp only; omega⟩ (by simp only; omega)
    · rw [List.take_of_length_le (by omega)] at hsm2 hsz2
      (repeat' (first|refine Run.ct rfl ?_|((first|refine Run.reg mixed ?_|refine Run.condM ?_|(refine Run.retP g_keep_expr (Heap.le_refl _) ?_)|(refine xo_gs rfl (fun h => ?_) (fun h => ?_) <;> try (cases h; done))) <;> try simp -implicitDefEqProofs only [lt_f hlt, List.length_map, go_sem, Nat.reduceEqDiff, Nat.reduceBEq, Nat.reduceAdd, Nat.reduceLeDiff, reduceIte, reduceCtorEq])|(refine ⟨fun h => ?_, fun h => ?_⟩ <;> first|(cases h; done)|try simp only [h])|fail))
      exact hyes q2 (by omega) (nmsK_P hnk) hsm hsm2 (by omega)
end Go.Ab
