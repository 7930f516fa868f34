/- Scope: the walk over an expression. Conditions: none. -/
import Derived.Test.YtlckhmkeihbhmaaXVa
set_option linter.unusedSimpArgs false
namespace Go.Ab
open Go.Proofs
def runL {S X : Type} (vis : S → X → Int × S) : List X → S → Option (Nat × Int) × S
  | [], s => (none, s)
  | x :: l, s => if (vis s x).1 = 0 then (((runL vis l (vis s x).2).1.map fun y => (y.1 + 1, y.2)), (runL vis l (vis s x).2).2) else (some (0, (vis s x).1), (vis s x).2)
theorem runL_app {S X : Type} {vis : S → X → Int × S} : ∀ (l m : List X) (s s' : S), runL vis l s = (none, s') → runL vis (l ++ m) s = (((runL vis m s').1.map fun y => (y.1 + l.length, y.2)), (runL vis m s').2)
  | [], m, s, s', h => by
    simp only [runL, Prod.mk.injEq, true_and] at h
    subst h
    simp
  | x :: l, m, s, s', h => by
    simp only [runL] at h
    split at h
    · rename_i h0
      simp only [Prod.mk.injEq, Option.map_eq_none_iff] at h
      have := runL_app l m (vis s x).2 s' (Prod.ext h.1 h.2)
      rw [List.cons_append, runL, if_pos h0, this]
      simp only [Option.map_map, List.length_cons, Prod.mk.injEq, and_true]
      congr 1
    · simp at h
theorem runL_fail {S X : Type} {vis : S → X → Int × S} : ∀ (l m : List X) (s s' : S) (r : Nat × Int), runL vis l s = (some r, s') → runL vis (l ++ m) s = (some r, s')
  | [], m, s, s', r, h => by simp [runL] at h
  | x :: l, m, s, s', r, h => by
    simp only [runL] at h
    split at h
    · rename_i h0
      simp only [Prod.mk.injEq, Option.map_eq_some_iff] at h
      obtain ⟨⟨y, hy, rfl⟩, h2⟩ := h
      have := runL_fail l m (vis s x).2 s' y (Prod.ext hy h2)
      rw [List.cons_append, runL, if_pos h0, this]; rfl
    · rename_i h0
      rw [List.cons_append, runL, if_neg h0]; exact h
theorem runL_ne {S X : Type} {vis : S → X → Int × S} : ∀ (l : List X) (s s' : S) (r : Nat × Int), runL vis l s = (some r, s') → r.2 ≠ 0
  | [], s, s', r, h => by simp [runL] at h
  | x :: l, s, s', r, h => by
    simp only [runL] at h
    split at h
    · simp only [Prod.mk.injEq, Option.map_eq_some_iff] at h
      obtain ⟨⟨y, hy, rfl⟩, h2⟩ := h
      exact runL_ne l (vis s x).2 s' y (Prod.ext hy h2)
    · rename_i h0
      simp only [Prod.mk.injEq, Option.some.injEq] at h
      rw [← h.1]; exact h0
theorem preKs_snoc (o : Int) (n : Str) (ns sc : List Str) (k : Ex) : ∀ (l : List Ex) (i : Nat), preKs o n ns sc i (l ++ [k]) = preKs o n ns sc i l ++ preP k (innP o n ns sc (i + l.length))
  | [], i => by simp [preKs]
  | x :: l, i => by
    rw [List.cons_append, preKs, preKs, preKs_snoc o n ns sc k l (i + 1), List.append_assoc, List.length_cons, show i + 1 + l.length = i + (l.length + 1) by omega]
theorem preKs_app (o : Int) (n : Str) (ns sc : List Str) (m : List Ex) : ∀ (l : List Ex) (i : Nat), preKs o n ns sc i (l ++ m) = preKs o n ns sc i l ++ preKs o n ns sc (i + l.length) m
  | [], i => by simp [preKs]
  | x :: l, i => by
    rw [List.cons_append, preKs, preKs, preKs_app o n ns sc m l (i + 1), List.append_assoc, List.length_cons, show i + 1 + l.length = i + (l.length + 1) by omega]
theorem preAs_app (sc : List Str) (m : List Al) : ∀ l : List Al, preAs sc (l ++ m) = preAs sc l ++ preAs sc m
  | [] => by simp [preAs]
  | x :: l => by rw [List.cons_append, preAs, preAs, preAs_app sc m l, List.append_assoc]
mutual
theorem preP_len : ∀ (e : Ex) (sc : List Str), (preP e sc).length = e.size
  | .mk o n u ns ks al, sc => by rw [preP, List.length_cons, List.length_append, preKs_len o n ns sc 0 ks, preAs_len sc al, Ex.size]; omega
theorem preKs_len (o : Int) (n : Str) (ns sc : List Str) : ∀ (i : Nat) (l : List Ex), (preKs o n ns sc i l).length = Ex.sizes l
  | _, [] => by simp [preKs, Ex.sizes]
  | i, k :: l => by rw [preKs, List.length_append, preP_len k _, preKs_len o n ns sc (i + 1) l, Ex.sizes]
theorem preA_len : ∀ (a : Al) (sc : List Str), (preA a sc).length = a.size
  | .mk c vs b, sc => by rw [preA, preP_len b _, Al.size]
theorem preAs_len (sc : List Str) : ∀ l : List Al, (preAs sc l).length = Al.sizes l
  | [] => by simp [preAs, Al.sizes]
  | a :: l => by rw [preAs, List.length_append, preA_len a sc, preAs_len sc l, Al.sizes]
end
section
variable {S : Type} (vis : S → Ex × List Str → Int × S) (hS : S → Heap) (j : Nat) (fv : AV)
def WH (n : Nat) (s : S) : Heap := (hS s).setBlk j [.d (.int .i64 n), fv]
def WQ (l : List (Ex × List Str)) (n : Nat) (s : S) (v : AV) (σ' : Heap) : Prop :=
  match runL vis l s with
  | (none, s') => v = .d (.int .i64 0) ∧ σ' = WH hS j fv (n + l.length - 1) s'
  | (some (k, c), s') => c ≠ 0 ∧ v = .d (.int .i64 c) ∧ σ' = WH hS j fv (n + k) s'
def VisOk (fid : FuncId) (first caps : List AV) (l : List (Ex × List Str)) : Prop :=
  ∀ x ∈ l, ∀ (s : S) (n : Nat), ACalls Try.prog fid (first ++ [exA x.1, .d (bdL x.2)] ++ caps) (WH hS j fv n s) (fun v σ' => v = .d (.int .i64 (vis s x).1) ∧ σ' = WH hS j fv n (vis s x).2)
end
theorem inn_ok (o : Int) (n : Str) (ns sc : List Str) (i : Nat) : bdL (innP o n ns sc i) = bdL (if (o = 7 ∨ o = 17) ∧ i = 1 then sc ++ [n] else if (o = 8 ∧ i = 1) ∨ o = 11 then sc ++ ns else sc) := by
  unfold innP
  split
  · split
    · rename_i h; rw [bdL_skip _ _ (by simp [h])]
    · rfl
  · rfl
set_option maxRecDepth 4000 in
set_option maxHeartbeats 8000000 in
theorem walk_ok {S : Type} (vis : S → Ex × List Str → Int × S) (hS : S → Heap) (j : Nat) (fid : FuncId) (first caps : List AV) (hb : hasBody Try.prog fid = true) (hfi : first.all AV.noLp = true) (hca : caps.all AV.noLp = true) :
    ∀ (N : Nat) (e : Ex) (sc : List Str) (n : Nat) (s : S), e.size ≤ N → n + e.size ≤ 1000000000 → VisOk vis hS j (.fn fid first caps) fid first caps (preP e sc) →
    ACalls Try.prog 40 [.gp j 0, exA e, .d (bdL sc)] (WH hS j (.fn fid first caps) n s) (WQ vis hS j (.fn fid first caps) (preP e sc) n s) := by
  intro N
  induction N with
  | zero => intro e sc n s h; have := Ex.size_pos e; omega
  | succ N ihN =>
  intro e sc n s hN hsz hvis
  have hcall := hvis (e, sc) (by cases e; rw [preP]; exact List.mem_cons_self ..) s n
  obtain ⟨o, nm, u, ns, ks, al⟩ := e
  simp only [Ex.size] at hN hsz
  have hkl := Ex.len_sizes ks
  have hal := Al.len_sizes al
  refine i_scope_walker_walk (by simp) ?_
  rw [argF_3, exA, Ex.enc_mk]
  simp only [exA, Ex.enc_mk, List.map_cons, List.map_nil] at hcall
  generalize hV : WQ vis hS j (.fn fid first caps) (preP (.mk o nm u ns ks al) sc) n s = V
  have hnl : (first ++ [AV.agg [.d (.int .i64 o), .d (.str nm), .d (.int .i64 u), .d (.sl (ns.map sRow)), .d (.sl (ks.map Ex.enc)), .d (.sl (al.map Al.enc))], .d (bdL sc)] ++ caps).all AV.noLp = true := by
    simp [hfi, hca, noLp_d, noLp_agg]
  have hblk : ∀ n s, (WH hS j (.fn fid first caps) n s).blk j = some [.d (.int .i64 n), .fn fid first caps] := fun n s => by simp only [WH, setBlk_get, if_true]
  cases hv : decide ((vis s (.mk o nm u ns ks al, sc)).1 = 0) with
  | false =>
    have hv' : (vis s (.mk o nm u ns ks al, sc)).1 ≠ 0 := by simpa using hv
    have hne : ((vis s (.mk o nm u ns ks al, sc)).1 != 0) = true := by simpa using hv'
    (repeat' (first|refine Run.ct rfl ?_|((first|refine Run.reg mixed ?_|refine Run.condM ?_|refine Run.retR g_scope_walker_walk (Heap.le_refl _) ?_|(refine ⟨fid, first, caps, rfl, hb, XCall.mk hnl hcall ?_⟩; rintro _ _ ⟨rfl, rfl⟩)|(refine xo_gs rfl (fun h => ?_) (fun h => ?_) <;> try (cases h; done))) <;> try simp -implicitDefEqProofs only [hblk, hne, go_sem, Nat.reduceEqDiff, Nat.reduceBEq, Nat.reduceAdd, Nat.reduceLeDiff, reduceIte, reduceCtorEq])|(refine ⟨fun h => ?_, fun h => ?_⟩ <;> first|(cases h; done)|try simp only [h])|fail))
    rw [← hV, WQ, preP, runL, if_neg hv']
    exact ⟨hv', rfl, rfl⟩
  | true =>
  have hv' : (vis s (.mk o nm u ns ks al, sc)).1 = 0 := by simpa using hv
  have hne : ((vis s (.mk o nm u ns ks al, sc)).1 != 0) = false := by simp [hv']
  (repeat' (first|refine Run.ct rfl ?_|((first|refine Run.reg mixed ?_|refine Run.condM ?_|(refine ⟨fid, first, caps, rfl, hb, XCall.mk hnl hcall ?_⟩; rintro _ _ ⟨rfl, rfl⟩)|(refine xo_gs rfl (fun h => ?_) (fun h => ?_) <;> try (cases h; done))) <;> try simp -implicitDefEqProofs only [hblk, hne, List.length_map, go_sem, Nat.reduceEqDiff, Nat.reduceBEq, Nat.reduceAdd, Nat.reduceLeDiff, reduceIte, reduceCtorEq])|(refine ⟨fun h => ?_, fun h => ?_⟩ <;> first|(cases h; done)|try simp only [h])|fail))
  have hr0 : runL vis [((.mk o nm u ns ks al : Ex), sc)] s = (none, (vis s (.mk o nm u ns ks al, sc)).2) := by simp [runL, hv']
  generalize (vis s (.mk o nm u ns ks al, sc)).2 = s0 at hr0 ⊢
  clear hcall hnl hv hv' hne
  have hfail : ∀ (l m : List (Ex × List Str)) (k : Nat) (c : Int) (s' : S), preP (.mk o nm u ns ks al) sc = l ++ m → c ≠ 0 → runL vis l s = (some (k, c), s') → V (.d (.int .i64 c)) (WH hS j (.fn fid first caps) (n + k) s') := fun l m k c s' he hc hr => by
    rw [← hV, WQ, he, runL_fail l m s s' (k, c) hr]
    exact ⟨hc, rfl, rfl⟩
  have hpre : preP (.mk o nm u ns ks al) sc = ((.mk o nm u ns ks al : Ex), sc) :: (preKs o nm ns sc 0 ks ++ preAs sc al) := by rw [preP]
  refine Run.loopA ?_
  refine Run.loopI ((fun (a0 : AV) (a2 : AV) (a4 : AV) (a26 : AV) (a27 : AV) => fun (y : Nat × S) => put 0 a0 (put 2 a2 (put 4 a4 (put 26 a26 (put 27 a27 (put 28 (.d (.int .i64 y.1)) U)))))) _ _ _ _ _) (fun _ => putL 4 [.d (.int .i64 o), .d (.str nm), .d (.int .i64 u), .d (.sl (ns.map sRow)), .d (.sl (ks.map Ex.enc)), .d (.sl (al.map Al.enc))] E) (fun y => WH hS j (.fn fid first caps) (n + Ex.sizes (ks.take y.1)) y.2)
    (fun y => y.1 ≤ ks.length ∧ runL vis (((.mk o nm u ns ks al : Ex), sc) :: preKs o nm ns sc 0 (ks.take y.1)) s = (none, y.2)) (fun y => ks.length - y.1) ?_ (0, s0) ⟨by simp, by simpa [preKs] using hr0⟩
  rintro ⟨i, t⟩ ⟨hi, hok⟩ ih
  simp only at hi hok
  by_cases hlt : i < ks.length
  · obtain ⟨x, hx⟩ := ex_at hlt
    have he := row_at (enc := Ex.enc) hx
    have hw1 : IntKind.i64.wrap ((i : Int) + 1) = ((i + 1 : Nat) : Int) := by rw [wrap_pos (by omega) (by omega)]; omega
    have hxs := Ex.mem_sz (List.mem_of_getElem? hx)
    have hsum : Ex.sizes (ks.take i) + x.size + Ex.sizes (ks.drop (i + 1)) = Ex.sizes ks := by
      conv => rhs; rw [← List.take_append_drop i ks, Ex.sizes_append, drop_at hx, Ex.sizes]
      omega
    have hst : Ex.sizes (ks.take (i + 1)) = Ex.sizes (ks.take i) + x.size := by rw [take_snoc hx, Ex.sizes_append]; simp [Ex.sizes]
    have hwn : IntKind.i64.wrap (((n + Ex.sizes (ks.take i) : Nat) : Int) + 1) = ((n + Ex.sizes (ks.take i) + 1 : Nat) : Int) := wrap_succ (by omega)
    have hks : preKs o nm ns sc 0 (ks.take (i + 1)) = preKs o nm ns sc 0 (ks.take i) ++ preP x (innP o nm ns sc i) := by
      rw [take_snoc hx, preKs_snoc, List.length_take, Nat.min_eq_left (by omega), Nat.zero_add]
    have hall : preP (.mk o nm u ns ks al) sc = (((.mk o nm u ns ks al : Ex), sc) :: preKs o nm ns sc 0 (ks.take (i + 1))) ++ (preKs o nm ns sc (i + 1) (ks.drop (i + 1)) ++ preAs sc al) := by
      rw [hpre, List.cons_append, ← List.append_assoc]
      congr 2
      conv => lhs; rw [← List.take_append_drop (i + 1) ks, preKs_app, List.length_take, Nat.min_eq_left (by omega), Nat.zero_add]
    have hlen : (((.mk o nm u ns ks al : Ex), sc) :: preKs o nm ns sc 0 (ks.take i)).length = 1 + Ex.sizes (ks.take i) := by
      rw [List.length_cons, preKs_len]; omega
    have happ := runL_app (vis := vis) _ (preP x (innP o nm ns sc i)) s t hok
    rw [List.cons_append, ← hks, hlen] at happ
    have hvx : VisOk vis hS j (.fn fid first caps) fid first caps (preP x (innP o nm ns sc i)) := fun y hy => hvis y (by
      rw [hall, List.mem_append, List.mem_cons, hks, List.mem_append]; exact .inl (.inr (.inr hy)))
    have hc := ihN x (innP o nm ns sc i) (n + Ex.sizes (ks.take i) + 1) t (by omega) (by omega) hvx
    have hbd := inn_ok o nm ns sc i
    generalize hsi : innP o nm ns sc i = sci at hc happ hbd hvx hks
    have hset : ∀ m : Nat, (WH hS j (.fn fid first caps) (n + Ex.sizes (ks.take i)) t).setBlk j [.d (.int .i64 (m : Int)), .fn fid first caps] = WH hS j (.fn fid first caps) m t := fun m => by simp only [WH, setBlk_set]
    rcases hrx : runL vis (preP x sci) t with ⟨_ | ⟨k, c⟩, t'⟩
    · have hc : ACalls Try.prog 40 [.gp j 0, exA x, .d (bdL sci)] (WH hS j (.fn fid first caps) (n + Ex.sizes (ks.take i) + 1) t) (fun v σ' => v = .d (.int .i64 0) ∧ σ' = WH hS j (.fn fid first caps) (n + Ex.sizes (ks.take (i + 1))) t') := hc.mono (by
        intro v σ' h
        simp only [WQ, hrx] at h
        rw [preP_len] at h
        obtain ⟨rfl, rfl⟩ := h
        have := Ex.size_pos x
        refine ⟨rfl, ?_⟩
        congr 1; omega)
      rw [hrx] at happ
      simp only [Option.map_none] at happ
      obtain ⟨xo, xn, xu, xs, xk, xa⟩ := x
      simp only [Ex.enc_mk, exA, List.map_cons, List.map_nil] at he hc
      (repeat' (first|refine Run.cb rfl ?_|((first|refine Run.reg mixed ?_|refine Run.condM ?_|(refine xo_gs rfl (fun h => ?_) (fun h => ?_) <;> try (cases h; done))) <;> try simp -implicitDefEqProofs only [lt_t hlt, he, go_sem, Nat.reduceEqDiff, Nat.reduceBEq, Nat.reduceAdd, Nat.reduceLeDiff, reduceIte, reduceCtorEq])|(refine ⟨fun h => ?_, fun h => ?_⟩ <;> first|(cases h; done)|try simp only [h])|fail))
      refine Run.block ?_
      (repeat' (first|refine Run.cb rfl ?_|((first|refine Run.reg mixed ?_|refine Run.condM ?_|(refine xo_gs rfl (fun h => ?_) (fun h => ?_) <;> try (cases h; done))) <;> try simp -implicitDefEqProofs only [lt_t hlt, he, go_sem, Nat.reduceEqDiff, Nat.reduceBEq, Nat.reduceAdd, Nat.reduceLeDiff, reduceIte, reduceCtorEq])|(refine ⟨fun h => ?_, fun h => ?_⟩ <;> first|(cases h; done)|try simp only [h])|fail))
      refine Run.meetAt (α := Unit) [0, 2, 4, 9, 10, 26, 27, 28] (fun _ => put 0 (.gp j 0) (put 2 (.d (bdL sc)) (put 4 (.lp 4 0) (put 9 (.lp 9 0) (put 10 (.d (bdL sci)) (put 26 (.d (.sl (ks.map Ex.enc))) (put 27 (.d (.int .i64 ks.length)) (put 28 (.d (.int .i64 i)) U)))))))) (putL 4 [.d (.int .i64 o), .d (.str nm), .d (.int .i64 u), .d (.sl (ns.map sRow)), .d (.sl (ks.map Ex.enc)), .d (.sl (al.map Al.enc))] (putL 9 [.d (.int .i64 xo), .d (.str xn), .d (.int .i64 xu), .d (.sl (xs.map sRow)), .d (.sl (xk.map Ex.enc)), .d (.sl (xa.map Al.enc))] E)) (WH hS j (.fn fid first caps) (n + Ex.sizes (ks.take i)) t) (fun _ => True) ?_ ?_
      · rintro ⟨⟩ _
        (repeat' (first|refine Run.ct rfl ?_|((first|refine Run.reg mixed ?_|refine Run.condM ?_|(refine XCall.mk rfl hc ?_; rintro _ _ ⟨rfl, rfl⟩)|(refine xo_gs rfl (fun h => ?_) (fun h => ?_) <;> try (cases h; done))) <;> try simp -implicitDefEqProofs only [hblk, hwn, hset, hw1, go_sem, Nat.reduceEqDiff, Nat.reduceBEq, Nat.reduceAdd, Nat.reduceLeDiff, reduceIte, reduceCtorEq])|(refine ⟨fun h => ?_, fun h => ?_⟩ <;> first|(cases h; done)|try simp only [h])|fail))
        exact ih (i + 1, t') ⟨by simp only; omega, happ⟩ (by simp only; omega)
      · intro hrest
        clear hc
        have hwi : ((i : Int) == 1) = decide (i = 1) := by rw [Bool.eq_iff_iff]; simp only [beq_iff_eq, decide_eq_true_eq]; omega
        have hws1 := with_ok sc ns (WH hS j (.fn fid first caps) (n + Ex.sizes (ks.take i)) t)
        have hws2 := with_ok sc [nm] (WH hS j (.fn fid first caps) (n + Ex.sizes (ks.take i)) t)
        simp only [List.map_cons, List.map_nil, sRow] at hws2
        have key := fun (F' : Fm) (L' : Lm) h1 h2 => hrest F' L' () h1 h2 trivial
        clear hrest
        by_cases h11 : o = 11
        · subst h11
          rw [if_neg (by omega), if_pos (.inr rfl)] at hbd
          rw [← hbd] at hws1
          (repeat' (first|(refine key _ _ (by simp only [go_sem, Nat.reduceEqDiff, Nat.reduceBEq, Nat.reduceAdd, Nat.reduceLeDiff, reduceIte, reduceCtorEq]) (by simp only [go_sem, Nat.reduceEqDiff, Nat.reduceBEq, Nat.reduceAdd, Nat.reduceLeDiff, reduceIte, reduceCtorEq]))|refine Run.ct rfl ?_|((first|refine Run.reg mixed ?_|refine Run.condM ?_|refine XCall.det (hws1) ?_|(refine xo_gs rfl (fun h => ?_) (fun h => ?_) <;> try (cases h; done))) <;> try simp -implicitDefEqProofs only [Int.reduceBEq, go_sem, Nat.reduceEqDiff, Nat.reduceBEq, Nat.reduceAdd, Nat.reduceLeDiff, reduceIte, reduceCtorEq])|(refine ⟨fun h => ?_, fun h => ?_⟩ <;> first|(cases h; done)|try simp only [h])|fail))
        by_cases h8 : o = 8 ∧ i = 1
        · obtain ⟨rfl, rfl⟩ := h8
          rw [if_neg (by omega), if_pos (.inl ⟨rfl, rfl⟩)] at hbd
          rw [← hbd] at hws1
          (repeat' (first|(refine key _ _ (by simp only [go_sem, Nat.reduceEqDiff, Nat.reduceBEq, Nat.reduceAdd, Nat.reduceLeDiff, reduceIte, reduceCtorEq]) (by simp only [go_sem, Nat.reduceEqDiff, Nat.reduceBEq, Nat.reduceAdd, Nat.reduceLeDiff, reduceIte, reduceCtorEq]))|refine Run.ct rfl ?_|((first|refine Run.reg mixed ?_|refine Run.condM ?_|refine XCall.det (hws1) ?_|(refine xo_gs rfl (fun h => ?_) (fun h => ?_) <;> try (cases h; done))) <;> try simp -implicitDefEqProofs only [Int.reduceBEq, hwi, go_sem, Nat.reduceEqDiff, Nat.reduceBEq, Nat.reduceAdd, Nat.reduceLeDiff, reduceIte, reduceCtorEq])|(refine ⟨fun h => ?_, fun h => ?_⟩ <;> first|(cases h; done)|try simp only [h])|fail))
        by_cases h7 : (o = 7 ∨ o = 17) ∧ i = 1
        · rw [if_pos h7] at hbd
          rw [← hbd] at hws2
          obtain ⟨h7, rfl⟩ := h7
          rcases h7 with rfl | rfl
          all_goals (repeat' (first|(refine key _ _ (by simp only [go_sem, Nat.reduceEqDiff, Nat.reduceBEq, Nat.reduceAdd, Nat.reduceLeDiff, reduceIte, reduceCtorEq]) (by simp only [go_sem, Nat.reduceEqDiff, Nat.reduceBEq, Nat.reduceAdd, Nat.reduceLeDiff, reduceIte, reduceCtorEq]))|refine Run.ct rfl ?_|((first|refine Run.reg mixed ?_|refine Run.condM ?_|refine XCall.det (hws2) ?_|(refine xo_gs rfl (fun h => ?_) (fun h => ?_) <;> try (cases h; done))) <;> try simp -implicitDefEqProofs only [Int.reduceBEq, hwi, go_sem, Nat.reduceEqDiff, Nat.reduceBEq, Nat.reduceAdd, Nat.reduceLeDiff, reduceIte, reduceCtorEq])|(refine ⟨fun h => ?_, fun h => ?_⟩ <;> first|(cases h; done)|try simp only [h])|fail))
        · rw [if_neg h7, if_neg (by omega)] at hbd
          have hA : (o == 8 && decide (i = 1)) = false := by
            rw [Bool.eq_false_iff]; intro h; exact h8 (by simpa using h)
          have hB : ((o == 7 || o == 17) && decide (i = 1)) = false := by
            rw [Bool.eq_false_iff]; intro h; exact h7 (by simpa using h)
          (repeat' (first|(refine key _ _ (by simp only [go_sem, Nat.reduceEqDiff, Nat.reduceBEq, Nat.reduceAdd, Nat.reduceLeDiff, reduceIte, reduceCtorEq, hbd]) (by simp only [go_sem, Nat.reduceEqDiff, Nat.reduceBEq, Nat.reduceAdd, Nat.reduceLeDiff, reduceIte, reduceCtorEq]))|refine Run.ct rfl ?_|(refine xo_gm2 (by first|exact GV.t|exact GV.f|exact GV.st|exact GV.sf) ⟨?_, fun h => ?_, ?_⟩; rotate_left; (focus ((try simp only [Bool.and_eq_true, Bool.not_not] at h); simp -implicitDefEqProofs only [beqF h11, hwi, hA, hB, go_sem, Nat.reduceEqDiff, Nat.reduceBEq, Nat.reduceAdd, Nat.reduceLeDiff, reduceIte, reduceCtorEq]; first|exact Is.mk|exact Is.pv (by simp -implicitDefEqProofs only [h, sel_t, ↓pk_and, ↓pk_or, ↓pk_or2, beqF h11, hwi, hA, hB, go_sem, Nat.reduceEqDiff, Nat.reduceBEq, Nat.reduceAdd, Nat.reduceLeDiff, reduceIte, reduceCtorEq]; rfl))); (try simp -implicitDefEqProofs only [sel_sel, sel_sl, sel_sr, ↓pk_and, ↓pk_or, ↓pk_or2, beqF h11, hwi, hA, hB, rs_scope_walker_walk, go_sem, Nat.reduceEqDiff, Nat.reduceBEq, Nat.reduceAdd, Nat.reduceLeDiff, reduceIte, reduceCtorEq]))|((first|refine Run.reg mixed ?_|refine Run.condM ?_|(refine xo_gs rfl (fun h => ?_) (fun h => ?_) <;> try (cases h; done))) <;> try simp -implicitDefEqProofs only [sel_sel, sel_sl, sel_sr, ↓pk_and, ↓pk_or, ↓pk_or2, beqF h11, hwi, hA, hB, go_sem, Nat.reduceEqDiff, Nat.reduceBEq, Nat.reduceAdd, Nat.reduceLeDiff, reduceIte, reduceCtorEq])|(refine ⟨fun h => ?_, fun h => ?_⟩ <;> first|(cases h; done)|try simp only [h])|fail))
    · have hc : ACalls Try.prog 40 [.gp j 0, exA x, .d (bdL sci)] (WH hS j (.fn fid first caps) (n + Ex.sizes (ks.take i) + 1) t) (fun v σ' => v = .d (.int .i64 c) ∧ σ' = WH hS j (.fn fid first caps) (n + (k + (1 + Ex.sizes (ks.take i)))) t' ∧ c ≠ 0) := hc.mono (by
        intro v σ' h
        simp only [WQ, hrx] at h
        obtain ⟨hc0, rfl, rfl⟩ := h
        refine ⟨rfl, ?_, hc0⟩
        congr 1; omega)
      rw [hrx] at happ
      simp only [Option.map_some] at happ
      have hc0 : c ≠ 0 := runL_ne _ _ _ _ hrx
      have hne : (c != 0) = true := by simpa using hc0
      obtain ⟨xo, xn, xu, xs, xk, xa⟩ := x
      simp only [Ex.enc_mk, exA, List.map_cons, List.map_nil] at he hc
      (repeat' (first|refine Run.cb rfl ?_|((first|refine Run.reg mixed ?_|refine Run.condM ?_|(refine xo_gs rfl (fun h => ?_) (fun h => ?_) <;> try (cases h; done))) <;> try simp -implicitDefEqProofs only [lt_t hlt, he, go_sem, Nat.reduceEqDiff, Nat.reduceBEq, Nat.reduceAdd, Nat.reduceLeDiff, reduceIte, reduceCtorEq])|(refine ⟨fun h => ?_, fun h => ?_⟩ <;> first|(cases h; done)|try simp only [h])|fail))
      refine Run.block ?_
      (repeat' (first|refine Run.cb rfl ?_|((first|refine Run.reg mixed ?_|refine Run.condM ?_|(refine xo_gs rfl (fun h => ?_) (fun h => ?_) <;> try (cases h; done))) <;> try simp -implicitDefEqProofs only [lt_t hlt, he, go_sem, Nat.reduceEqDiff, Nat.reduceBEq, Nat.reduceAdd, Nat.reduceLeDiff, reduceIte, reduceCtorEq])|(refine ⟨fun h => ?_, fun h => ?_⟩ <;> first|(cases h; done)|try simp only [h])|fail))
      refine Run.meetAt (α := Unit) [0, 2, 4, 9, 10, 26, 27, 28] (fun _ => put 0 (.gp j 0) (put 2 (.d (bdL sc)) (put 4 (.lp 4 0) (put 9 (.lp 9 0) (put 10 (.d (bdL sci)) (put 26 (.d (.sl (ks.map Ex.enc))) (put 27 (.d (.int .i64 ks.length)) (put 28 (.d (.int .i64 i)) U)))))))) (putL 4 [.d (.int .i64 o), .d (.str nm), .d (.int .i64 u), .d (.sl (ns.map sRow)), .d (.sl (ks.map Ex.enc)), .d (.sl (al.map Al.enc))] (putL 9 [.d (.int .i64 xo), .d (.str xn), .d (.int .i64 xu), .d (.sl (xs.map sRow)), .d (.sl (xk.map Ex.enc)), .d (.sl (xa.map Al.enc))] E)) (WH hS j (.fn fid first caps) (n + Ex.sizes (ks.take i)) t) (fun _ => True) ?_ ?_
      · rintro ⟨⟩ _
        (repeat' (first|refine Run.ct rfl ?_|((first|refine Run.reg mixed ?_|refine Run.condM ?_|refine Run.retR g_scope_walker_walk (Heap.le_refl _) ?_|(refine XCall.mk rfl hc ?_; rintro _ _ ⟨rfl, rfl, _⟩)|(refine xo_gs rfl (fun h => ?_) (fun h => ?_) <;> try (cases h; done))) <;> try simp -implicitDefEqProofs only [hblk, hwn, hset, hw1, hne, go_sem, Nat.reduceEqDiff, Nat.reduceBEq, Nat.reduceAdd, Nat.reduceLeDiff, reduceIte, reduceCtorEq])|(refine ⟨fun h => ?_, fun h => ?_⟩ <;> first|(cases h; done)|try simp only [h])|fail))
        exact hfail _ _ _ _ _ hall hc0 happ
      · intro hrest
        clear hc
        have hwi : ((i : Int) == 1) = decide (i = 1) := by rw [Bool.eq_iff_iff]; simp only [beq_iff_eq, decide_eq_true_eq]; omega
        have hws1 := with_ok sc ns (WH hS j (.fn fid first caps) (n + Ex.sizes (ks.take i)) t)
        have hws2 := with_ok sc [nm] (WH hS j (.fn fid first caps) (n + Ex.sizes (ks.take i)) t)
        simp only [List.map_cons, List.map_nil, sRow] at hws2
        have key := fun (F' : Fm) (L' : Lm) h1 h2 => hrest F' L' () h1 h2 trivial
        clear hrest
        by_cases h11 : o = 11
        · subst h11
          rw [if_neg (by omega), if_pos (.inr rfl)] at hbd
          rw [← hbd] at hws1
          (repeat' (first|(refine key _ _ (by simp only [go_sem, Nat.reduceEqDiff, Nat.reduceBEq, Nat.reduceAdd, Nat.reduceLeDiff, reduceIte, reduceCtorEq]) (by simp only [go_sem, Nat.reduceEqDiff, Nat.reduceBEq, Nat.reduceAdd, Nat.reduceLeDiff, reduceIte, reduceCtorEq]))|refine Run.ct rfl ?_|((first|refine Run.reg mixed ?_|refine Run.condM ?_|refine XCall.det (hws1) ?_|(refine xo_gs rfl (fun h => ?_) (fun h => ?_) <;> try (cases h; done))) <;> try simp -implicitDefEqProofs only [Int.reduceBEq, go_sem, Nat.reduceEqDiff, Nat.reduceBEq, Nat.reduceAdd, Nat.reduceLeDiff, reduceIte, reduceCtorEq])|(refine ⟨fun h => ?_, fun h => ?_⟩ <;> first|(cases h; done)|try simp only [h])|fail))
        by_cases h8 : o = 8 ∧ i = 1
        · obtain ⟨rfl, rfl⟩ := h8
          rw [if_neg (by omega), if_pos (.inl ⟨rfl, rfl⟩)] at hbd
          rw [← hbd] at hws1
          (repeat' (first|(refine key _ _ (by simp only [go_sem, Nat.reduceEqDiff, Nat.reduceBEq, Nat.reduceAdd, Nat.reduceLeDiff, reduceIte, reduceCtorEq]) (by simp only [go_sem, Nat.reduceEqDiff, Nat.reduceBEq, Nat.reduceAdd, Nat.reduceLeDiff, reduceIte, reduceCtorEq]))|refine Run.ct rfl ?_|((first|refine Run.reg mixed ?_|refine Run.condM ?_|refine XCall.det (hws1) ?_|(refine xo_gs rfl (fun h => ?_) (fun h => ?_) <;> try (cases h; done))) <;> try simp -implicitDefEqProofs only [Int.reduceBEq, hwi, go_sem, Nat.reduceEqDiff, Nat.reduceBEq, Nat.reduceAdd, Nat.reduceLeDiff, reduceIte, reduceCtorEq])|(refine ⟨fun h => ?_, fun h => ?_⟩ <;> first|(cases h; done)|try simp only [h])|fail))
        by_cases h7 : (o = 7 ∨ o = 17) ∧ i = 1
        · rw [if_pos h7] at hbd
          rw [← hbd] at hws2
          obtain ⟨h7, rfl⟩ := h7
          rcases h7 with rfl | rfl
          all_goals (repeat' (first|(refine key _ _ (by simp only [go_sem, Nat.reduceEqDiff, Nat.reduceBEq, Nat.reduceAdd, Nat.reduceLeDiff, reduceIte, reduceCtorEq]) (by simp only [go_sem, Nat.reduceEqDiff, Nat.reduceBEq, Nat.reduceAdd, Nat.reduceLeDiff, reduceIte, reduceCtorEq]))|refine Run.ct rfl ?_|((first|refine Run.reg mixed ?_|refine Run.condM ?_|refine XCall.det (hws2) ?_|(refine xo_gs rfl (fun h => ?_) (fun h => ?_) <;> try (cases h; done))) <;> try simp -implicitDefEqProofs only [Int.reduceBEq, hwi, go_sem, Nat.reduceEqDiff, Nat.reduceBEq, Nat.reduceAdd, Nat.reduceLeDiff, reduceIte, reduceCtorEq])|(refine ⟨fun h => ?_, fun h => ?_⟩ <;> first|(cases h; done)|try simp only [h])|fail))
        · rw [if_neg h7, if_neg (by omega)] at hbd
          have hA : (o == 8 && decide (i = 1)) = false := by
            rw [Bool.eq_false_iff]; intro h; exact h8 (by simpa using h)
          have hB : ((o == 7 || o == 17) && decide (i = 1)) = false := by
            rw [Bool.eq_false_iff]; intro h; exact h7 (by simpa using h)
          (repeat' (first|(refine key _ _ (by simp only [go_sem, Nat.reduceEqDiff, Nat.reduceBEq, Nat.reduceAdd, Nat.reduceLeDiff, reduceIte, reduceCtorEq, hbd]) (by simp only [go_sem, Nat.reduceEqDiff, Nat.reduceBEq, Nat.reduceAdd, Nat.reduceLeDiff, reduceIte, reduceCtorEq]))|refine Run.ct rfl ?_|(refine xo_gm2 (by first|exact GV.t|exact GV.f|exact GV.st|exact GV.sf) ⟨?_, fun h => ?_, ?_⟩; rotate_left; (focus ((try simp only [Bool.and_eq_true, Bool.not_not] at h); simp -implicitDefEqProofs only [beqF h11, hwi, hA, hB, go_sem, Nat.reduceEqDiff, Nat.reduceBEq, Nat.reduceAdd, Nat.reduceLeDiff, reduceIte, reduceCtorEq]; first|exact Is.mk|exact Is.pv (by simp -implicitDefEqProofs only [h, sel_t, ↓pk_and, ↓pk_or, ↓pk_or2, beqF h11, hwi, hA, hB, go_sem, Nat.reduceEqDiff, Nat.reduceBEq, Nat.reduceAdd, Nat.reduceLeDiff, reduceIte, reduceCtorEq]; rfl))); (try simp -implicitDefEqProofs only [sel_sel, sel_sl, sel_sr, ↓pk_and, ↓pk_or, ↓pk_or2, beqF h11, hwi, hA, hB, rs_scope_walker_walk, go_sem, Nat.reduceEqDiff, Nat.reduceBEq, Nat.reduceAdd, Nat.reduceLeDiff, reduceIte, reduceCtorEq]))|((first|refine Run.reg mixed ?_|refine Run.condM ?_|(refine xo_gs rfl (fun h => ?_) (fun h => ?_) <;> try (cases h; done))) <;> try simp -implicitDefEqProofs only [sel_sel, sel_sl, sel_sr, ↓pk_and, ↓pk_or, ↓pk_or2, beqF h11, hwi, hA, hB, go_sem, Nat.reduceEqDiff, Nat.reduceBEq, Nat.reduceAdd, Nat.reduceLeDiff, reduceIte, reduceCtorEq])|(refine ⟨fun h => ?_, fun h => ?_⟩ <;> first|(cases h; done)|try simp only [h])|fail))
  · have hik : ks.take i = ks := List.take_of_length_le (by omega)
    rw [hik] at hok
    clear ih
    (repeat' (first|refine Run.ct rfl ?_|((first|refine Run.reg mixed ?_|refine Run.condM ?_|(refine xo_gs rfl (fun h => ?_) (fun h => ?_) <;> try (cases h; done))) <;> try simp -implicitDefEqProofs only [lt_f hlt, List.length_map, hik, go_sem, Nat.reduceEqDiff, Nat.reduceBEq, Nat.reduceAdd, Nat.reduceLeDiff, reduceIte, reduceCtorEq])|(refine ⟨fun h => ?_, fun h => ?_⟩ <;> first|(cases h; done)|try simp only [h])|fail))
    refine Run.loopA ?_
    refine Run.loopI ((fun (a0 : AV) (a2 : AV) (a83 : AV) (a84 : AV) => fun (y : Nat × S) => put 0 a0 (put 2 a2 (put 83 a83 (put 84 a84 (put 85 (.d (.int .i64 y.1)) U))))) _ _ _ _) (fun _ => E) (fun y => WH hS j (.fn fid first caps) (n + Ex.sizes ks + Al.sizes (al.take y.1)) y.2)
      (fun y => y.1 ≤ al.length ∧ runL vis (((.mk o nm u ns ks al : Ex), sc) :: (preKs o nm ns sc 0 ks ++ preAs sc (al.take y.1))) s = (none, y.2)) (fun y => al.length - y.1) ?_ (0, t) ⟨by simp, by simpa [preAs] using hok⟩
    clear hok hi hlt hik
    rintro ⟨i, t⟩ ⟨hi, hok⟩ ih
    simp only at hi hok
    by_cases hlt : i < al.length
    · obtain ⟨a, hx⟩ := ex_at hlt
      have he := row_at (enc := Al.enc) hx
      have hw1 : IntKind.i64.wrap ((i : Int) + 1) = ((i + 1 : Nat) : Int) := by rw [wrap_pos (by omega) (by omega)]; omega
      have hxs := Al.mem_sz (List.mem_of_getElem? hx)
      have hsum : Al.sizes (al.take i) + a.size + Al.sizes (al.drop (i + 1)) = Al.sizes al := by
        conv => rhs; rw [← List.take_append_drop i al, Al.sizes_append, drop_at hx, Al.sizes]
        omega
      have hst : Al.sizes (al.take (i + 1)) = Al.sizes (al.take i) + a.size := by rw [take_snoc hx, Al.sizes_append]; simp [Al.sizes]
      have hwn : IntKind.i64.wrap (((n + Ex.sizes ks + Al.sizes (al.take i) : Nat) : Int) + 1) = ((n + Ex.sizes ks + Al.sizes (al.take i) + 1 : Nat) : Int) := wrap_succ (by omega)
      have hks : preAs sc (al.take (i + 1)) = preAs sc (al.take i) ++ preA a sc := by
        rw [take_snoc hx, preAs_app]; simp [preAs]
      have hall : preP (.mk o nm u ns ks al) sc = (((.mk o nm u ns ks al : Ex), sc) :: (preKs o nm ns sc 0 ks ++ preAs sc (al.take (i + 1)))) ++ preAs sc (al.drop (i + 1)) := by
        rw [hpre, List.cons_append, List.append_assoc, ← preAs_app, List.take_append_drop]
      have hlen : (((.mk o nm u ns ks al : Ex), sc) :: (preKs o nm ns sc 0 ks ++ preAs sc (al.take i))).length = 1 + Ex.sizes ks + Al.sizes (al.take i) := by
        rw [List.length_cons, List.length_append, preKs_len, preAs_len]; omega
      have happ := runL_app (vis := vis) _ (preA a sc) s t hok
      rw [List.cons_append, List.append_assoc, ← hks, hlen] at happ
      obtain ⟨ac, av, x⟩ := a
      rw [preA] at happ hks
      simp only [Al.size] at hxs hst hsum
      have hvx : VisOk vis hS j (.fn fid first caps) fid first caps (preP x (sc ++ av)) := fun y hy => hvis y (by
        rw [hall, List.mem_append, List.mem_cons, List.mem_append, hks, List.mem_append]; exact .inl (.inr (.inr (.inr hy))))
      have hc := ihN x (sc ++ av) (n + Ex.sizes ks + Al.sizes (al.take i) + 1) t (by omega) (by omega) hvx
      have hws := with_ok sc av
      generalize sc ++ av = sci at hc happ hvx hks hws
      have hset : ∀ m : Nat, (WH hS j (.fn fid first caps) (n + Ex.sizes ks + Al.sizes (al.take i)) t).setBlk j [.d (.int .i64 (m : Int)), .fn fid first caps] = WH hS j (.fn fid first caps) m t := fun m => by simp only [WH, setBlk_set]
      rcases hrx : runL vis (preP x sci) t with ⟨_ | ⟨k, c⟩, t'⟩
      · have hc : ACalls Try.prog 40 [.gp j 0, exA x, .d (bdL sci)] (WH hS j (.fn fid first caps) (n + Ex.sizes ks + Al.sizes (al.take i) + 1) t) (fun v σ' => v = .d (.int .i64 0) ∧ σ' = WH hS j (.fn fid first caps) (n + Ex.sizes ks + Al.sizes (al.take (i + 1))) t') := hc.mono (by
          intro v σ' h
          simp only [WQ, hrx] at h
          rw [preP_len] at h
          obtain ⟨rfl, rfl⟩ := h
          have := Ex.size_pos x
          refine ⟨rfl, ?_⟩
          congr 1; omega)
        rw [hrx] at happ
        simp only [Option.map_none] at happ
        obtain ⟨xo, xn, xu, xs, xk, xa⟩ := x
        simp only [Al.enc_mk, Ex.enc_mk, exA, List.map_cons, List.map_nil] at he hc
        (repeat' (first|refine Run.ct rfl ?_|((first|refine Run.reg mixed ?_|refine Run.condM ?_|(refine XCall.mk rfl hc ?_; rintro _ _ ⟨rfl, rfl⟩)|refine XCall.det (hws _) ?_|(refine xo_gs rfl (fun h => ?_) (fun h => ?_) <;> try (cases h; done))) <;> try simp -implicitDefEqProofs only [lt_t hlt, he, hblk, hwn, hset, hw1, go_sem, Nat.reduceEqDiff, Nat.reduceBEq, Nat.reduceAdd, Nat.reduceLeDiff, reduceIte, reduceCtorEq])|(refine ⟨fun h => ?_, fun h => ?_⟩ <;> first|(cases h; done)|try simp only [h])|fail))
        exact ih (i + 1, t') ⟨by simp only; omega, happ⟩ (by simp only; omega)
      · have hc : ACalls Try.prog 40 [.gp j 0, exA x, .d (bdL sci)] (WH hS j (.fn fid first caps) (n + Ex.sizes ks + Al.sizes (al.take i) + 1) t) (fun v σ' => v = .d (.int .i64 c) ∧ σ' = WH hS j (.fn fid first caps) (n + (k + (1 + Ex.sizes ks + Al.sizes (al.take i)))) t' ∧ c ≠ 0) := hc.mono (by
          intro v σ' h
          simp only [WQ, hrx] at h
          obtain ⟨hc0, rfl, rfl⟩ := h
          refine ⟨rfl, ?_, hc0⟩
          congr 1; omega)
        rw [hrx] at happ
        simp only [Option.map_some] at happ
        have hc0 : c ≠ 0 := runL_ne _ _ _ _ hrx
        have hne : (c != 0) = true := by simpa using hc0
        obtain ⟨xo, xn, xu, xs, xk, xa⟩ := x
        simp only [Al.enc_mk, Ex.enc_mk, exA, List.map_cons, List.map_nil] at he hc
        (repeat' (first|refine Run.ct rfl ?_|((first|refine Run.reg mixed ?_|refine Run.condM ?_|refine Run.retR g_scope_walker_walk (Heap.le_refl _) ?_|(refine XCall.mk rfl hc ?_; rintro _ _ ⟨rfl, rfl, _⟩)|refine XCall.det (hws _) ?_|(refine xo_gs rfl (fun h => ?_) (fun h => ?_) <;> try (cases h; done))) <;> try simp -implicitDefEqProofs only [lt_t hlt, he, hblk, hwn, hset, hw1, hne, go_sem, Nat.reduceEqDiff, Nat.reduceBEq, Nat.reduceAdd, Nat.reduceLeDiff, reduceIte, reduceCtorEq])|(refine ⟨fun h => ?_, fun h => ?_⟩ <;> first|(cases h; done)|try simp only [h])|fail))
        exact hfail _ _ _ _ _ hall hc0 happ
    · rw [List.take_of_length_le (by omega)] at hok
      have hia : al.take i = al := List.take_of_length_le (by omega)
      (repeat' (first|refine Run.ct rfl ?_|((first|refine Run.reg mixed ?_|refine Run.condM ?_|refine Run.retR g_scope_walker_walk (Heap.le_refl _) ?_|(refine xo_gs rfl (fun h => ?_) (fun h => ?_) <;> try (cases h; done))) <;> try simp -implicitDefEqProofs only [lt_f hlt, go_sem, Nat.reduceEqDiff, Nat.reduceBEq, Nat.reduceAdd, Nat.reduceLeDiff, reduceIte, reduceCtorEq])|(refine ⟨fun h => ?_, fun h => ?_⟩ <;> first|(cases h; done)|try simp only [h])|fail))
      rw [← hV, WQ, hpre, hok, hia]
      refine ⟨rfl, ?_⟩
      congr 1
      rw [List.length_cons, List.length_append, preKs_len, preAs_len]; omega
end Go.Ab
