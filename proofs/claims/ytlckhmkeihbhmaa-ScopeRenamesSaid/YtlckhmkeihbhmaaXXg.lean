/- Renamed programs: suffixed, renamedType, renamed. Renamed programs: renamed. Renamed programs: Renamed. Conditions: none. -/
import Derived.Test.YtlckhmkeihbhmaaXXe
set_option linter.unusedSimpArgs false
namespace Go.Ab
open Go.Proofs
theorem strA_add' {a b : List UInt8} (h : a.length + b.length ≤ 1000000000) : strA .add a b = some (.d (.str (a ++ b))) := by
  exact if_pos (Nat.le_trans h (by decide))
def sufW (x s : Str) : Str := if s = [] then [] else s ++ x
theorem sufW_Q : sufW [81] = sufS := rfl
theorem keep_suffixed_ok (x : Str) (hxl : x.length ≤ 100) (l : List Str) (hl : l.length ≤ 1000) (hs : ∀ s ∈ l, s.length ≤ 1000) (σ : Heap) : ACalls Try.prog 22 [.d (.sl (l.map sRow)), .d (.str x)] σ (fun v σ' => v = .d (.sl ((l.map (sufW x)).map sRow)) ∧ σ' = σ) := by
  refine i_keep_suffixed (by simp) ?_
  rw [argF_2]
  (repeat' (first|refine Run.ct rfl ?_|((first|refine Run.reg mixed ?_|refine Run.condM ?_|(refine xo_gs rfl (fun h => ?_) (fun h => ?_) <;> try (cases h; done))) <;> try simp -implicitDefEqProofs only [List.length_map, go_sem, Nat.reduceEqDiff, Nat.reduceBEq, Nat.reduceAdd, Nat.reduceLeDiff, reduceIte, reduceCtorEq])|(refine ⟨fun h => ?_, fun h => ?_⟩ <;> first|(cases h; done)|try simp only [h])|fail))
  refine Run.loopA ?_
  refine Run.loopI ((fun (a1 : AV) (a8 : AV) (a9 : AV) => fun (y : Nat × AV × Heap) => put 1 a1 (put 5 (y.2.1) (put 8 a8 (put 9 a9 (put 10 (.d (.int .i64 y.1)) U))))) _ _ _) (fun _ => E) (fun y => y.2.2) (fun y => y.1 ≤ l.length ∧ OwnS σ 9 1 (((l.take y.1).map (sufW x)).map sRow) y.2.1 y.2.2) (fun y => l.length - y.1) ?_ (0, .nils, σ) ⟨by simp, OwnS.nil _ _ _⟩
  rintro ⟨i, v, τ⟩ ⟨hi, ho⟩ ih
  simp only at hi ho
  by_cases hlt : i < l.length
  · obtain ⟨s, hx⟩ := ex_at hlt
    have he := row_at (enc := sRow) hx
    simp only [sRow] at he
    have hw1 := wrap_succ (show i + 1 ≤ 9000000000000000000 by omega)
    have hsl := hs s (List.mem_of_getElem? hx)
    have hnx : ((l.take (i + 1)).map (sufW x)).map sRow = ((l.take i).map (sufW x)).map sRow ++ [[DV.str (sufW x s)]] := by
      rw [take_snoc hx]; simp [sRow]
    cases hs0 : (s == []) with
    | true =>
      have hsn : s = [] := by simpa using hs0
      subst hsn
      rw [show sufW x [] = [] from rfl] at hnx
      (repeat' (first|refine Run.ct rfl ?_|((first|refine Run.reg mixed ?_|refine Run.condM ?_|(refine XApp.own ho rfl (by simp) (by simp; omega) (by decide) (fun v2 σ2 ho2 hbk => ?_))|(refine xo_gs rfl (fun h => ?_) (fun h => ?_) <;> try (cases h; done))) <;> try simp -implicitDefEqProofs only [lt_t hlt, he, hw1, strA_neq, hs0, go_sem, Nat.reduceEqDiff, Nat.reduceBEq, Nat.reduceAdd, Nat.reduceLeDiff, reduceIte, reduceCtorEq])|(refine ⟨fun h => ?_, fun h => ?_⟩ <;> first|(cases h; done)|try simp only [h])|fail))
      (repeat' (first|refine Run.ct rfl ?_|((first|refine Run.reg mixed ?_|refine Run.condM ?_|(refine xo_gs rfl (fun h => ?_) (fun h => ?_) <;> try (cases h; done))) <;> try simp -implicitDefEqProofs only [hw1, go_sem, Nat.reduceEqDiff, Nat.reduceBEq, Nat.reduceAdd, Nat.reduceLeDiff, reduceIte, reduceCtorEq])|(refine ⟨fun h => ?_, fun h => ?_⟩ <;> first|(cases h; done)|try simp only [h])|fail))
      exact ih (i + 1, v2, σ2) ⟨by simp only; omega, by simp only; rw [hnx]; exact ho2⟩ (by simp only; omega)
    | false =>
      have hsn : s ≠ [] := by simpa using hs0
      rw [show sufW x s = s ++ x from if_neg hsn] at hnx
      (repeat' (first|refine Run.ct rfl ?_|((first|refine Run.reg mixed ?_|refine Run.condM ?_|(refine XApp.own ho rfl (by simp) (by simp; omega) (by decide) (fun v2 σ2 ho2 hbk => ?_))|(refine xo_gs rfl (fun h => ?_) (fun h => ?_) <;> try (cases h; done))) <;> try simp -implicitDefEqProofs only [lt_t hlt, he, hw1, strA_neq, hs0, strA_add' (a := s) (b := x) (by omega), go_sem, Nat.reduceEqDiff, Nat.reduceBEq, Nat.reduceAdd, Nat.reduceLeDiff, reduceIte, reduceCtorEq])|(refine ⟨fun h => ?_, fun h => ?_⟩ <;> first|(cases h; done)|try simp only [h])|fail))
      (repeat' (first|refine Run.ct rfl ?_|((first|refine Run.reg mixed ?_|refine Run.condM ?_|(refine xo_gs rfl (fun h => ?_) (fun h => ?_) <;> try (cases h; done))) <;> try simp -implicitDefEqProofs only [hw1, go_sem, Nat.reduceEqDiff, Nat.reduceBEq, Nat.reduceAdd, Nat.reduceLeDiff, reduceIte, reduceCtorEq])|(refine ⟨fun h => ?_, fun h => ?_⟩ <;> first|(cases h; done)|try simp only [h])|fail))
      exact ih (i + 1, v2, σ2) ⟨by simp only; omega, by simp only; rw [hnx]; exact ho2⟩ (by simp only; omega)
  · rw [List.take_of_length_le (by omega)] at ho
    (repeat' (first|refine Run.ct rfl ?_|((first|refine Run.reg mixed ?_|refine Run.condM ?_|(refine Run.retP g_keep_suffixed (σ2 := σ) ho.le ?_)|(refine xo_gs rfl (fun h => ?_) (fun h => ?_) <;> try (cases h; done))) <;> try simp -implicitDefEqProofs only [lt_f hlt, ho.noLp, go_sem, Nat.reduceEqDiff, Nat.reduceBEq, Nat.reduceAdd, Nat.reduceLeDiff, reduceIte, reduceCtorEq])|(refine ⟨fun h => ?_, fun h => ?_⟩ <;> first|(cases h; done)|try simp only [h])|fail))
    simp -implicitDefEqProofs only [ho.plain, ho.noLp, go_sem, Nat.reduceEqDiff, Nat.reduceBEq, Nat.reduceAdd, Nat.reduceLeDiff, reduceIte, reduceCtorEq]
theorem keep_renamedType_ok : ∀ (N : Nat) (t : TE) (σ : Heap), t.size ≤ N → t.size ≤ 100000 → t.sm → ACalls Try.prog 23 [teA t, .d (.str [81])] σ (fun v σ' => v = teA t.ren ∧ σ' = σ) := by
  intro N
  induction N with
  | zero => intro t σ h; have := TE.size_pos t; omega
  | succ N ihN =>
  rintro ⟨k, n, l⟩ σ hN hsz hsm
  simp only [TE.size] at hN hsz
  rw [TE.sm, TE.sms_mem] at hsm
  have hlen := TE.len_sizes l
  rw [TE.ren_mk]
  refine i_keep_renamedType (by simp) ?_
  rw [argF_2, teA, teA, TE.enc_mk, TE.enc_mk]
  simp only [List.map_cons, List.map_nil]
  have key : ∀ n' : Str, Run x_keep_renamedType (fun v σ' => v = .agg [.d (.int .i64 k), .d (.str n'), .d (.sl ((l.map TE.ren).map TE.enc))] ∧ σ' = σ) [.code (.block 0 (.loop c_keep_renamedType_L0)), .code (.seq (.reg [⟨some 37, .ldl (.t 5) (some 3), none⟩, ⟨none, .st (.t 4) (.t 37) 3, none⟩] [4]) .ret)]
      (put 1 (.d (.str [81])) (put 4 (.lp 4 0) (put 5 (.lp 5 0) (put 22 (.d (.sl (l.map TE.enc))) (put 23 (.d (.int .i64 l.length)) (put 24 (.d (.int .i64 0)) U)))))) (putL 4 [.d (.int .i64 0), .d (.str []), .nils] (putL 5 [.d (.int .i64 k), .d (.str n'), .nils] E)) σ := by
    intro n'
    (repeat' (first|refine Run.ct rfl ?_|((first|refine Run.reg mixed ?_|refine Run.condM ?_|(refine xo_gs rfl (fun h => ?_) (fun h => ?_) <;> try (cases h; done))) <;> try simp -implicitDefEqProofs only [List.length_map, go_sem, Nat.reduceEqDiff, Nat.reduceBEq, Nat.reduceAdd, Nat.reduceLeDiff, reduceIte, reduceCtorEq])|(refine ⟨fun h => ?_, fun h => ?_⟩ <;> first|(cases h; done)|try simp only [h])|fail))
    refine Run.loopA ?_
    refine Run.loopI ((fun (a1 : AV) (a4 : AV) (a5 : AV) (a22 : AV) (a23 : AV) => fun (y : Nat × AV × Heap) => put 1 a1 (put 4 a4 (put 5 a5 (put 22 a22 (put 23 a23 (put 24 (.d (.int .i64 y.1)) U)))))) _ _ _ _ _) (fun y => putL 4 [.d (.int .i64 0), .d (.str []), .nils] (putL 5 [.d (.int .i64 k), .d (.str n'), y.2.1] E)) (fun y => y.2.2) (fun y => y.1 ≤ l.length ∧ OwnS σ 46 3 (((l.take y.1).map TE.ren).map TE.enc) y.2.1 y.2.2) (fun y => l.length - y.1) ?_ (0, .nils, σ) ⟨by simp, OwnS.nil _ _ _⟩
    rintro ⟨i, v, τ⟩ ⟨hi, ho⟩ ih
    simp only at hi ho
    by_cases hlt : i < l.length
    · obtain ⟨x, hx⟩ := ex_at hlt
      have he := row_at (enc := TE.enc) hx
      have hw1 := wrap_succ (show i + 1 ≤ 9000000000000000000 by omega)
      have hxs := TE.mem_sz (List.mem_of_getElem? hx)
      have hc := ihN x τ (by omega) (by omega) (hsm.2 x (List.mem_of_getElem? hx))
      have hnx : ((l.take (i + 1)).map TE.ren).map TE.enc = ((l.take i).map TE.ren).map TE.enc ++ [x.ren.enc] := by
        rw [take_snoc hx]; simp
      obtain ⟨xk, xn, xl⟩ := x
      simp only [teA, TE.ren_mk, TE.enc_mk, List.map_cons, List.map_nil] at he hc hnx
      (repeat' (first|refine Run.ct rfl ?_|((first|refine Run.reg mixed ?_|refine Run.condM ?_|(refine XApp.own ho rfl (by simp) (by simp; omega) (by decide) (fun v2 σ2 ho2 hbk => ?_))|refine XCall.det (hc) ?_|(refine xo_gs rfl (fun h => ?_) (fun h => ?_) <;> try (cases h; done))) <;> try simp -implicitDefEqProofs only [lt_t hlt, he, hw1, ho.cell, ho.cells, ho.noLp, ho.lpOf, go_sem, Nat.reduceEqDiff, Nat.reduceBEq, Nat.reduceAdd, Nat.reduceLeDiff, reduceIte, reduceCtorEq])|(refine ⟨fun h => ?_, fun h => ?_⟩ <;> first|(cases h; done)|try simp only [h])|fail))
      simp -implicitDefEqProofs only [ho2.cells, ho2.cell, go_sem, Nat.reduceEqDiff, Nat.reduceBEq, Nat.reduceAdd, Nat.reduceLeDiff, reduceIte, reduceCtorEq]
      (repeat' (first|refine Run.ct rfl ?_|((first|refine Run.reg mixed ?_|refine Run.condM ?_|(refine xo_gs rfl (fun h => ?_) (fun h => ?_) <;> try (cases h; done))) <;> try simp -implicitDefEqProofs only [hw1, ho2.cell, ho2.cells, go_sem, Nat.reduceEqDiff, Nat.reduceBEq, Nat.reduceAdd, Nat.reduceLeDiff, reduceIte, reduceCtorEq])|(refine ⟨fun h => ?_, fun h => ?_⟩ <;> first|(cases h; done)|try simp only [h])|fail))
      exact ih (i + 1, v2, σ2) ⟨by simp only; omega, by simp only; rw [hnx]; exact ho2⟩ (by simp only; omega)
    · rw [List.take_of_length_le (by omega)] at ho
      (repeat' (first|refine Run.ct rfl ?_|((first|refine Run.reg mixed ?_|refine Run.condM ?_|(refine Run.retP g_keep_renamedType (σ2 := σ) ho.le ?_)|(refine xo_gs rfl (fun h => ?_) (fun h => ?_) <;> try (cases h; done))) <;> try simp -implicitDefEqProofs only [lt_f hlt, ho.cell, ho.cells, ho.noLp, ho.lpOf, go_sem, Nat.reduceEqDiff, Nat.reduceBEq, Nat.reduceAdd, Nat.reduceLeDiff, reduceIte, reduceCtorEq])|(refine ⟨fun h => ?_, fun h => ?_⟩ <;> first|(cases h; done)|try simp only [h])|fail))
      simp -implicitDefEqProofs only [ho.plain, ho.noLp, go_sem, Nat.reduceEqDiff, Nat.reduceBEq, Nat.reduceAdd, Nat.reduceLeDiff, reduceIte, reduceCtorEq]
  by_cases h4 : k = 4
  · subst h4
    rw [if_pos rfl]
    have hk1 := key (n ++ [81])
    clear key
    (repeat' (first|refine Run.cb rfl ?_|((first|refine Run.reg mixed ?_|refine Run.condM ?_|(refine xo_gs rfl (fun h => ?_) (fun h => ?_) <;> try (cases h; done))) <;> try simp -implicitDefEqProofs only [Int.reduceBEq, List.length_map, strA_add' (a := n) (b := [81]) (by have := hsm.1; simp; omega), go_sem, Nat.reduceEqDiff, Nat.reduceBEq, Nat.reduceAdd, Nat.reduceLeDiff, reduceIte, reduceCtorEq])|(refine ⟨fun h => ?_, fun h => ?_⟩ <;> first|(cases h; done)|try simp only [h])|fail))
    exact hk1
  · rw [if_neg h4]
    have hk1 := key n
    clear key
    (repeat' (first|refine Run.cb rfl ?_|((first|refine Run.reg mixed ?_|refine Run.condM ?_|(refine xo_gs rfl (fun h => ?_) (fun h => ?_) <;> try (cases h; done))) <;> try simp -implicitDefEqProofs only [beqF h4, List.length_map, go_sem, Nat.reduceEqDiff, Nat.reduceBEq, Nat.reduceAdd, Nat.reduceLeDiff, reduceIte, reduceCtorEq])|(refine ⟨fun h => ?_, fun h => ?_⟩ <;> first|(cases h; done)|try simp only [h])|fail))
    exact hk1
end Go.Ab

namespace Go.Ab
open Go.Proofs
theorem sufQ_ok (l : List Str) (hl : nmsP l) (σ : Heap) : ACalls Try.prog 22 [.d (.sl (l.map sRow)), .d (.str [81])] σ (fun v σ' => v = .d (.sl ((l.map sufS).map sRow)) ∧ σ' = σ) :=
  keep_suffixed_ok [81] (by simp) l (by have := hl.1; omega) (fun s hs => by have := hl.2 s hs; omega) σ
theorem suf1_ok (s : Str) (hl : s.length ≤ 40) (σ : Heap) : ACalls Try.prog 22 [.d (.sl [[.str s]]), .d (.str [81])] σ (fun v σ' => v = .d (.sl [[.str (sufS s)]]) ∧ σ' = σ) :=
  sufQ_ok [s] ⟨by simp, fun t ht => by simp at ht; subst ht; exact hl⟩ σ
theorem ix0 (s : Str) : (if (0 : Int) ≤ 0 then ([[DV.str s]] : List (List DV))[Int.toNat 0]?.bind (fun r => if r.length = 1 then some (AV.ep r 0) else none) else none) = some (.ep [.str s] 0) := rfl
set_option maxRecDepth 4000 in
set_option maxHeartbeats 8000000 in
theorem keep_renamed_ok : ∀ (N : Nat) (e : Ex) (σ : Heap), e.size ≤ N → e.size ≤ 100000 → e.sm → ACalls Try.prog 24 [exA e, .d (.str [81])] σ (fun v σ' => v = exA e.ren ∧ σ' = σ) := by
  intro N
  induction N with
  | zero => intro t σ h; have := Ex.size_pos t; omega
  | succ N ihN =>
  rintro ⟨o, n, u, ns, ks, al⟩ σ hN hsz hsm
  simp only [Ex.size] at hN hsz
  rw [Ex.sm, Ex.sms_mem, Al.sms_mem] at hsm
  obtain ⟨hn40, hns, hks, hal⟩ := hsm
  have hlen := Ex.len_sizes ks
  have hlen2 := Al.len_sizes al
  rw [Ex.ren_mk]
  have hsn := sufQ_ok ns hns σ
  have hsn1 := suf1_ok n hn40 σ
  refine i_keep_renamed (by simp) ?_
  rw [argF_2, exA, exA, Ex.enc_mk, Ex.enc_mk]
  simp only [List.map_cons, List.map_nil]
  have key : ∀ n' : Str, Run x_keep_renamed (fun v σ' => v = .agg [.d (.int .i64 o), .d (.str n'), .d (.int .i64 u), .d (.sl ((ns.map sufS).map sRow)), .d (.sl ((ks.map Ex.ren).map Ex.enc)), .d (.sl ((al.map Al.ren).map Al.enc))] ∧ σ' = σ)
      [.code (.block 0 (.loop c_keep_renamed_L0)), .code (.seq (.seq (.reg [⟨some 48, .fld (.t 2) 5, none⟩, ⟨some 49, .ldl (.t 48) none, none⟩, ⟨some 50, .len (.t 49), none⟩, ⟨some 51, .mv (.c (.d (.int .i64 0))), none⟩] [1, 4, 5, 49, 50, 51]) (.block 2 (.loop c_keep_renamed_L1))) (.seq (.reg [⟨some 72, .ldl (.t 5) (some 6), none⟩, ⟨none, .st (.t 4) (.t 72) 6, none⟩] [4]) .ret))]
      (put 1 (.d (.str [81])) (put 2 (.lp 2 0) (put 4 (.lp 4 0) (put 5 (.lp 5 0) (put 33 (.d (.sl (ks.map Ex.enc))) (put 34 (.d (.int .i64 ks.length)) (put 35 (.d (.int .i64 0)) U)))))))
      (putL 2 [.d (.int .i64 o), .d (.str n), .d (.int .i64 u), .d (.sl (ns.map sRow)), .d (.sl (ks.map Ex.enc)), .d (.sl (al.map Al.enc))] (putL 4 [.d (.int .i64 0), .d (.str []), .d (.int .i64 0), .nils, .nils, .nils] (putL 5 [.d (.int .i64 o), .d (.str n'), .d (.int .i64 u), .d (.sl ((ns.map sufS).map sRow)), .nils, .nils] E))) σ := by
    intro n'
    (repeat' (first|refine Run.ct rfl ?_|((first|refine Run.reg mixed ?_|refine Run.condM ?_|(refine xo_gs rfl (fun h => ?_) (fun h => ?_) <;> try (cases h; done))) <;> try simp -implicitDefEqProofs only [List.length_map, go_sem, Nat.reduceEqDiff, Nat.reduceBEq, Nat.reduceAdd, Nat.reduceLeDiff, reduceIte, reduceCtorEq])|(refine ⟨fun h => ?_, fun h => ?_⟩ <;> first|(cases h; done)|try simp only [h])|fail))
    refine Run.loopA ?_
    refine Run.loopI ((fun (a1 : AV) (a2 : AV) (a4 : AV) (a5 : AV) (a33 : AV) (a34 : AV) => fun (y : Nat × AV × Heap) => put 1 a1 (put 2 a2 (put 4 a4 (put 5 a5 (put 33 a33 (put 34 a34 (put 35 (.d (.int .i64 y.1)) U))))))) _ _ _ _ _ _) (fun y => putL 2 [.d (.int .i64 o), .d (.str n), .d (.int .i64 u), .d (.sl (ns.map sRow)), .d (.sl (ks.map Ex.enc)), .d (.sl (al.map Al.enc))] (putL 4 [.d (.int .i64 0), .d (.str []), .d (.int .i64 0), .nils, .nils, .nils] (putL 5 [.d (.int .i64 o), .d (.str n'), .d (.int .i64 u), .d (.sl ((ns.map sufS).map sRow)), y.2.1, .nils] E))) (fun y => y.2.2) (fun y => y.1 ≤ ks.length ∧ OwnS σ 52 6 (((ks.take y.1).map Ex.ren).map Ex.enc) y.2.1 y.2.2) (fun y => ks.length - y.1) ?_ (0, .nils, σ) ⟨by simp, OwnS.nil _ _ _⟩
    rintro ⟨i, v, τ⟩ ⟨hi, ho⟩ ih
    simp only at hi ho
    by_cases hlt : i < ks.length
    · obtain ⟨x, hx⟩ := ex_at hlt
      have he := row_at (enc := Ex.enc) hx
      have hw1 := wrap_succ (show i + 1 ≤ 9000000000000000000 by omega)
      have hxs := Ex.mem_sz (List.mem_of_getElem? hx)
      have hc := ihN x τ (by omega) (by omega) (hks x (List.mem_of_getElem? hx))
      have hnx : ((ks.take (i + 1)).map Ex.ren).map Ex.enc = ((ks.take i).map Ex.ren).map Ex.enc ++ [x.ren.enc] := by
        rw [take_snoc hx]; simp
      obtain ⟨xo, xn, xu, xns, xks, xal⟩ := x
      simp only [exA, Ex.ren_mk, Ex.enc_mk, List.map_cons, List.map_nil] at he hc hnx
      (repeat' (first|refine Run.ct rfl ?_|((first|refine Run.reg mixed ?_|refine Run.condM ?_|(refine XApp.own ho rfl (by simp) (by simp; omega) (by decide) (fun v2 σ2 ho2 hbk => ?_))|refine XCall.det (hc) ?_|(refine xo_gs rfl (fun h => ?_) (fun h => ?_) <;> try (cases h; done))) <;> try simp -implicitDefEqProofs only [lt_t hlt, he, hw1, ho.cell, ho.cells, ho.noLp, ho.lpOf, go_sem, Nat.reduceEqDiff, Nat.reduceBEq, Nat.reduceAdd, Nat.reduceLeDiff, reduceIte, reduceCtorEq])|(refine ⟨fun h => ?_, fun h => ?_⟩ <;> first|(cases h; done)|try simp only [h])|fail))
      simp -implicitDefEqProofs only [ho2.cells, ho2.cell, go_sem, Nat.reduceEqDiff, Nat.reduceBEq, Nat.reduceAdd, Nat.reduceLeDiff, reduceIte, reduceCtorEq]
      (repeat' (first|refine Run.ct rfl ?_|((first|refine Run.reg mixed ?_|refine Run.condM ?_|(refine xo_gs rfl (fun h => ?_) (fun h => ?_) <;> try (cases h; done))) <;> try simp -implicitDefEqProofs only [hw1, ho2.cell, ho2.cells, go_sem, Nat.reduceEqDiff, Nat.reduceBEq, Nat.reduceAdd, Nat.reduceLeDiff, reduceIte, reduceCtorEq])|(refine ⟨fun h => ?_, fun h => ?_⟩ <;> first|(cases h; done)|try simp only [h])|fail))
      exact ih (i + 1, v2, σ2) ⟨by simp only; omega, by simp only; rw [hnx]; exact ho2⟩ (by simp only; omega)
    rw [List.take_of_length_le (by omega)] at ho
    clear ih
    (repeat' (first|refine Run.ct rfl ?_|((first|refine Run.reg mixed ?_|refine Run.condM ?_|(refine xo_gs rfl (fun h => ?_) (fun h => ?_) <;> try (cases h; done))) <;> try simp -implicitDefEqProofs only [lt_f hlt, ho.cell, ho.cells, ho.noLp, ho.lpOf, List.length_map, go_sem, Nat.reduceEqDiff, Nat.reduceBEq, Nat.reduceAdd, Nat.reduceLeDiff, reduceIte, reduceCtorEq])|(refine ⟨fun h => ?_, fun h => ?_⟩ <;> first|(cases h; done)|try simp only [h])|fail))
    refine Run.loopA ?_
    refine Run.loopI ((fun (a1 : AV) (a4 : AV) (a5 : AV) (a49 : AV) (a50 : AV) => fun (y : Nat × AV × Heap) => put 1 a1 (put 4 a4 (put 5 a5 (put 49 a49 (put 50 a50 (put 51 (.d (.int .i64 y.1)) U)))))) _ _ _ _ _) (fun y => putL 4 [.d (.int .i64 0), .d (.str []), .d (.int .i64 0), .nils, .nils, .nils] (putL 5 [.d (.int .i64 o), .d (.str n'), .d (.int .i64 u), .d (.sl ((ns.map sufS).map sRow)), v, y.2.1] E)) (fun y => y.2.2) (fun y => y.1 ≤ al.length ∧ OwnS τ 82 8 (((al.take y.1).map Al.ren).map Al.enc) y.2.1 y.2.2) (fun y => al.length - y.1) ?_ (0, .nils, τ) ⟨by simp, OwnS.nil _ _ _⟩
    rintro ⟨i2, v2, τ2⟩ ⟨hi2, ho2⟩ ih
    simp only at hi2 ho2
    by_cases hlt2 : i2 < al.length
    · obtain ⟨x, hx⟩ := ex_at hlt2
      have he := row_at (enc := Al.enc) hx
      have hw1 := wrap_succ (show i2 + 1 ≤ 9000000000000000000 by omega)
      have hxs := Al.mem_sz (List.mem_of_getElem? hx)
      have hxm := hal x (List.mem_of_getElem? hx)
      have hnx : ((al.take (i2 + 1)).map Al.ren).map Al.enc = ((al.take i2).map Al.ren).map Al.enc ++ [x.ren.enc] := by
        rw [take_snoc hx]; simp
      obtain ⟨xc, xvs, xb⟩ := x
      rw [Al.size] at hxs
      rw [Al.sm] at hxm
      have hc := ihN xb τ2 (by omega) (by omega) hxm.2.2
      have hsv := sufQ_ok xvs hxm.2.1 τ2
      obtain ⟨xo, xn, xu, xns, xks, xal⟩ := xb
      simp only [exA, Al.ren_mk, Ex.ren_mk, Al.enc_mk, Ex.enc_mk, List.map_cons, List.map_nil] at he hc hnx
      (repeat' (first|refine Run.ct rfl ?_|((first|refine Run.reg mixed ?_|refine Run.condM ?_|(refine XApp.own ho2 rfl (by simp) (by simp; omega) (by decide) (fun v3 σ3 ho3 hbk => ?_))|refine XCall.det (hc) ?_|refine XCall.det (hsv) ?_|(refine xo_gs rfl (fun h => ?_) (fun h => ?_) <;> try (cases h; done))) <;> try simp -implicitDefEqProofs only [lt_t hlt2, he, hw1, ho2.cell, ho2.cells, ho2.noLp, ho2.lpOf, ho.cell, go_sem, Nat.reduceEqDiff, Nat.reduceBEq, Nat.reduceAdd, Nat.reduceLeDiff, reduceIte, reduceCtorEq])|(refine ⟨fun h => ?_, fun h => ?_⟩ <;> first|(cases h; done)|try simp only [h])|fail))
      simp -implicitDefEqProofs only [ho3.cells, ho3.cell, go_sem, Nat.reduceEqDiff, Nat.reduceBEq, Nat.reduceAdd, Nat.reduceLeDiff, reduceIte, reduceCtorEq]
      (repeat' (first|refine Run.ct rfl ?_|((first|refine Run.reg mixed ?_|refine Run.condM ?_|(refine xo_gs rfl (fun h => ?_) (fun h => ?_) <;> try (cases h; done))) <;> try simp -implicitDefEqProofs only [hw1, ho3.cell, ho3.cells, go_sem, Nat.reduceEqDiff, Nat.reduceBEq, Nat.reduceAdd, Nat.reduceLeDiff, reduceIte, reduceCtorEq])|(refine ⟨fun h => ?_, fun h => ?_⟩ <;> first|(cases h; done)|try simp only [h])|fail))
      exact ih (i2 + 1, v3, σ3) ⟨by simp only; omega, by simp only; rw [hnx]; exact ho3⟩ (by simp only; omega)
    · rw [List.take_of_length_le (by omega)] at ho2
      (repeat' (first|refine Run.ct rfl ?_|((first|refine Run.reg mixed ?_|refine Run.condM ?_|(refine Run.retP g_keep_renamed (σ2 := σ) (Heap.le_trans ho.le ho2.le) ?_)|(refine xo_gs rfl (fun h => ?_) (fun h => ?_) <;> try (cases h; done))) <;> try simp -implicitDefEqProofs only [lt_f hlt2, ho.cell, ho.cells, ho.noLp, ho.lpOf, ho2.cell, ho2.cells, ho2.noLp, ho2.lpOf, go_sem, Nat.reduceEqDiff, Nat.reduceBEq, Nat.reduceAdd, Nat.reduceLeDiff, reduceIte, reduceCtorEq])|(refine ⟨fun h => ?_, fun h => ?_⟩ <;> first|(cases h; done)|try simp only [h])|fail))
      simp -implicitDefEqProofs only [ho.plain, ho.noLp, ho2.plain, ho2.noLp, go_sem, Nat.reduceEqDiff, Nat.reduceBEq, Nat.reduceAdd, Nat.reduceLeDiff, reduceIte, reduceCtorEq]
  by_cases h6 : o = 6
  · subst h6
    rw [if_pos rfl]
    have hk1 := key n
    clear key
    have h66 : ((6 : Int) != 6) = false := by decide
    (repeat' (first|refine Run.cb rfl ?_|((first|refine Run.reg mixed ?_|refine Run.condM ?_|refine XCall.det (hsn) ?_|(refine xo_gs rfl (fun h => ?_) (fun h => ?_) <;> try (cases h; done))) <;> try simp -implicitDefEqProofs only [h66, List.length_map, go_sem, Nat.reduceEqDiff, Nat.reduceBEq, Nat.reduceAdd, Nat.reduceLeDiff, reduceIte, reduceCtorEq])|(refine ⟨fun h => ?_, fun h => ?_⟩ <;> first|(cases h; done)|try simp only [h])|fail))
    exact hk1
  · rw [if_neg h6]
    have hk1 := key (sufS n)
    clear key
    have h66 : (o != 6) = true := by simpa using h6
    (repeat' (first|refine Run.cb rfl ?_|((first|refine Run.reg mixed ?_|refine Run.condM ?_|refine XCall.det (hsn) ?_|refine XCall.det (hsn1) ?_|(refine xo_gs rfl (fun h => ?_) (fun h => ?_) <;> try (cases h; done))) <;> try simp -implicitDefEqProofs only [h66, ix0, List.length_map, go_sem, Nat.reduceEqDiff, Nat.reduceBEq, Nat.reduceAdd, Nat.reduceLeDiff, reduceIte, reduceCtorEq])|(refine ⟨fun h => ?_, fun h => ?_⟩ <;> first|(cases h; done)|try simp only [h])|fail))
    exact hk1
end Go.Ab

namespace Go.Ab
open Go.Proofs
set_option maxRecDepth 4000 in
set_option maxHeartbeats 8000000 in
theorem keep_Renamed_ok (p : Pg) (hp : p.sm) (σ : Heap) : ACalls Try.prog 7 [pgA p, .d (.str [81])] σ (fun v σ' => v = pgA p.ren ∧ σ' = σ) := by
  obtain ⟨⟨hdl, hdm⟩, hfl, hfm⟩ := hp
  refine i_keep_Renamed (by simp) ?_
  rw [argF_2]
  obtain ⟨ds, fs⟩ := p
  simp only [pgA, Pg.enc, Pg.ren, List.map_cons, List.map_nil] at hdl hdm hfl hfm ⊢
  (repeat' (first|refine Run.ct rfl ?_|((first|refine Run.reg mixed ?_|refine Run.condM ?_|(refine xo_gs rfl (fun h => ?_) (fun h => ?_) <;> try (cases h; done))) <;> try simp -implicitDefEqProofs only [List.length_map, go_sem, Nat.reduceEqDiff, Nat.reduceBEq, Nat.reduceAdd, Nat.reduceLeDiff, reduceIte, reduceCtorEq])|(refine ⟨fun h => ?_, fun h => ?_⟩ <;> first|(cases h; done)|try simp only [h])|fail))
  refine Run.loopA ?_
  refine Run.loopI ((fun (a1 : AV) (a2 : AV) (a4 : AV) (a5 : AV) (a17 : AV) (a18 : AV) => fun (y : Nat × AV × Heap) => put 1 a1 (put 2 a2 (put 4 a4 (put 5 a5 (put 17 a17 (put 18 a18 (put 19 (.d (.int .i64 y.1)) U))))))) _ _ _ _ _ _) (fun y => putL 2 [.d (.sl (ds.map DE.enc)), .d (.sl (fs.map FE.enc))] (putL 4 [.nils, .nils] (putL 5 [y.2.1, .nils] E))) (fun y => y.2.2) (fun y => y.1 ≤ ds.length ∧ OwnS σ 40 3 (((ds.take y.1).map DE.ren).map DE.enc) y.2.1 y.2.2) (fun y => ds.length - y.1) ?_ (0, .nils, σ) ⟨by simp, OwnS.nil _ _ _⟩
  rintro ⟨i, v, τ⟩ ⟨hi, ho⟩ ih
  simp only at hi ho
  by_cases hlt : i < ds.length
  · obtain ⟨d, hd⟩ := ex_at hlt
    have he := row_at (enc := DE.enc) hd
    have hw1 := wrap_succ (show i + 1 ≤ 9000000000000000000 by omega)
    obtain ⟨hd1, hd2, hd3, hd4⟩ := hdm d (List.mem_of_getElem? hd)
    have hnx : ((ds.take (i + 1)).map DE.ren).map DE.enc = ((ds.take i).map DE.ren).map DE.enc ++ [d.ren.enc] := by
      rw [take_snoc hd]; simp
    obtain ⟨dn, dvs', dcs⟩ := d
    simp only [DE.enc, DE.ren] at he hnx hd1 hd2 hd3 hd4
    have hsv := sufQ_ok dvs' hd2 τ
    (repeat' (first|refine Run.ct rfl ?_|((first|refine Run.reg mixed ?_|refine Run.condM ?_|refine XCall.det (hsv) ?_|(refine xo_gs rfl (fun h => ?_) (fun h => ?_) <;> try (cases h; done))) <;> try simp -implicitDefEqProofs only [lt_t hlt, he, ho.cell, List.length_map, go_sem, Nat.reduceEqDiff, Nat.reduceBEq, Nat.reduceAdd, Nat.reduceLeDiff, reduceIte, reduceCtorEq])|(refine ⟨fun h => ?_, fun h => ?_⟩ <;> first|(cases h; done)|try simp only [h])|fail))
    refine Run.loopA ?_
    refine Run.loopI ((fun (a1 : AV) (a2 : AV) (a4 : AV) (a5 : AV) (a8 : AV) (a17 : AV) (a18 : AV) (a19 : AV) (a31 : AV) (a32 : AV) => fun (y : Nat × AV × Heap) => put 1 a1 (put 2 a2 (put 4 a4 (put 5 a5 (put 8 a8 (put 17 a17 (put 18 a18 (put 19 a19 (put 31 a31 (put 32 a32 (put 33 (.d (.int .i64 y.1)) U))))))))))) _ _ _ _ _ _ _ _ _ _) (fun y => putL 2 [.d (.sl (ds.map DE.enc)), .d (.sl (fs.map FE.enc))] (putL 4 [.nils, .nils] (putL 5 [v, .nils] (putL 8 [.d (.str dn), .d (.sl ((dvs'.map sufS).map sRow)), y.2.1] E)))) (fun y => y.2.2) (fun y => y.1 ≤ dcs.length ∧ OwnS τ 44 2 (((dcs.take y.1).map CE.ren).map CE.enc) y.2.1 y.2.2) (fun y => dcs.length - y.1) ?_ (0, .nils, τ) ⟨by simp, OwnS.nil _ _ _⟩
    rintro ⟨i1, v1, τ1⟩ ⟨hi1, ho1⟩ ih1
    simp only at hi1 ho1
    by_cases hlt1 : i1 < dcs.length
    · obtain ⟨c, hc⟩ := ex_at hlt1
      have he1 := row_at (enc := CE.enc) hc
      have hw2 := wrap_succ (show i1 + 1 ≤ 9000000000000000000 by omega)
      obtain ⟨hc1, hc2, hc3⟩ := hd4 c (List.mem_of_getElem? hc)
      have hnx1 : ((dcs.take (i1 + 1)).map CE.ren).map CE.enc = ((dcs.take i1).map CE.ren).map CE.enc ++ [c.ren.enc] := by
        rw [take_snoc hc]; simp
      obtain ⟨cn, ar⟩ := c
      simp only [CE.enc, CE.ren] at he1 hnx1 hc1 hc2 hc3
      (repeat' (first|refine Run.ct rfl ?_|((first|refine Run.reg mixed ?_|refine Run.condM ?_|(refine xo_gs rfl (fun h => ?_) (fun h => ?_) <;> try (cases h; done))) <;> try simp -implicitDefEqProofs only [lt_t hlt1, he1, ho1.cell, List.length_map, go_sem, Nat.reduceEqDiff, Nat.reduceBEq, Nat.reduceAdd, Nat.reduceLeDiff, reduceIte, reduceCtorEq])|(refine ⟨fun h => ?_, fun h => ?_⟩ <;> first|(cases h; done)|try simp only [h])|fail))
      refine Run.loopA ?_
      refine Run.loopI ((fun (a1 : AV) (a2 : AV) (a4 : AV) (a5 : AV) (a8 : AV) (a11 : AV) (a17 : AV) (a18 : AV) (a19 : AV) (a31 : AV) (a32 : AV) (a33 : AV) (a41 : AV) (a42 : AV) => fun (y : Nat × AV × Heap) => put 1 a1 (put 2 a2 (put 4 a4 (put 5 a5 (put 8 a8 (put 11 a11 (put 17 a17 (put 18 a18 (put 19 a19 (put 31 a31 (put 32 a32 (put 33 a33 (put 41 a41 (put 42 a42 (put 43 (.d (.int .i64 y.1)) U))))))))))))))) _ _ _ _ _ _ _ _ _ _ _ _ _ _) (fun y => putL 2 [.d (.sl (ds.map DE.enc)), .d (.sl (fs.map FE.enc))] (putL 4 [.nils, .nils] (putL 5 [v, .nils] (putL 8 [.d (.str dn), .d (.sl ((dvs'.map sufS).map sRow)), v1] (putL 11 [.d (.str cn), y.2.1] E))))) (fun y => y.2.2) (fun y => y.1 ≤ ar.length ∧ OwnS τ1 46 3 (((ar.take y.1).map TE.ren).map TE.enc) y.2.1 y.2.2) (fun y => ar.length - y.1) ?_ (0, .nils, τ1) ⟨by simp, OwnS.nil _ _ _⟩
      rintro ⟨i2, v2, τ2⟩ ⟨hi2, ho2⟩ ih2
      simp only at hi2 ho2
      by_cases hlt2 : i2 < ar.length
      · obtain ⟨x, hx⟩ := ex_at hlt2
        have he2 := row_at (enc := TE.enc) hx
        have hw3 := wrap_succ (show i2 + 1 ≤ 9000000000000000000 by omega)
        obtain ⟨hx1, hx2⟩ := hc3 x (List.mem_of_getElem? hx)
        have hcl := keep_renamedType_ok x.size x τ2 (Nat.le_refl _) (by omega) hx1
        have hnx2 : ((ar.take (i2 + 1)).map TE.ren).map TE.enc = ((ar.take i2).map TE.ren).map TE.enc ++ [x.ren.enc] := by
          rw [take_snoc hx]; simp
        obtain ⟨xk, xn, xl⟩ := x
        simp only [teA, TE.ren_mk, TE.enc_mk, List.map_cons, List.map_nil] at he2 hcl hnx2
        (repeat' (first|refine Run.ct rfl ?_|((first|refine Run.reg mixed ?_|refine Run.condM ?_|(refine XApp.own ho2 rfl (by simp) (by simp; omega) (by decide) (fun v3 σ3 ho3 hbk => ?_))|refine XCall.det (hcl) ?_|(refine xo_gs rfl (fun h => ?_) (fun h => ?_) <;> try (cases h; done))) <;> try simp -implicitDefEqProofs only [lt_t hlt2, he2, hw3, ho2.cell, ho2.cells, ho2.noLp, ho2.lpOf, ho1.cell, ho.cell, go_sem, Nat.reduceEqDiff, Nat.reduceBEq, Nat.reduceAdd, Nat.reduceLeDiff, reduceIte, reduceCtorEq])|(refine ⟨fun h => ?_, fun h => ?_⟩ <;> first|(cases h; done)|try simp only [h])|fail))
        simp -implicitDefEqProofs only [ho3.cells, ho3.cell, go_sem, Nat.reduceEqDiff, Nat.reduceBEq, Nat.reduceAdd, Nat.reduceLeDiff, reduceIte, reduceCtorEq]
        (repeat' (first|refine Run.ct rfl ?_|((first|refine Run.reg mixed ?_|refine Run.condM ?_|(refine xo_gs rfl (fun h => ?_) (fun h => ?_) <;> try (cases h; done))) <;> try simp -implicitDefEqProofs only [hw3, ho3.cell, ho3.cells, go_sem, Nat.reduceEqDiff, Nat.reduceBEq, Nat.reduceAdd, Nat.reduceLeDiff, reduceIte, reduceCtorEq])|(refine ⟨fun h => ?_, fun h => ?_⟩ <;> first|(cases h; done)|try simp only [h])|fail))
        exact ih2 (i2 + 1, v3, σ3) ⟨by simp only; omega, by simp only; rw [hnx2]; exact ho3⟩ (by simp only; omega)
      · rw [List.take_of_length_le (by omega)] at ho2
        have ho1' := ho1.up ho2.le
        clear ih2
        (repeat' (first|refine Run.ct rfl ?_|((first|refine Run.reg mixed ?_|refine Run.condM ?_|(refine XApp.own ho1' rfl (by simp) (by simp; omega) (by decide) (fun v3 σ3 ho3 hbk => ?_))|(refine xo_gs rfl (fun h => ?_) (fun h => ?_) <;> try (cases h; done))) <;> try simp -implicitDefEqProofs only [lt_f hlt2, hw2, ho2.cell, ho2.cells, ho2.noLp, ho2.lpOf, ho2.dv, ho1.cell, ho1.cells, ho1.noLp, ho1.lpOf, ho.cell, go_sem, Nat.reduceEqDiff, Nat.reduceBEq, Nat.reduceAdd, Nat.reduceLeDiff, reduceIte, reduceCtorEq])|(refine ⟨fun h => ?_, fun h => ?_⟩ <;> first|(cases h; done)|try simp only [h])|fail))
        simp -implicitDefEqProofs only [ho3.cells, ho3.cell, go_sem, Nat.reduceEqDiff, Nat.reduceBEq, Nat.reduceAdd, Nat.reduceLeDiff, reduceIte, reduceCtorEq]
        (repeat' (first|refine Run.ct rfl ?_|((first|refine Run.reg mixed ?_|refine Run.condM ?_|(refine xo_gs rfl (fun h => ?_) (fun h => ?_) <;> try (cases h; done))) <;> try simp -implicitDefEqProofs only [hw2, ho3.cell, ho3.cells, go_sem, Nat.reduceEqDiff, Nat.reduceBEq, Nat.reduceAdd, Nat.reduceLeDiff, reduceIte, reduceCtorEq])|(refine ⟨fun h => ?_, fun h => ?_⟩ <;> first|(cases h; done)|try simp only [h])|fail))
        exact ih1 (i1 + 1, v3, σ3) ⟨by simp only; omega, by simp only; rw [hnx1]; exact ho3⟩ (by simp only; omega)
    · rw [List.take_of_length_le (by omega)] at ho1
      have ho' := ho.up ho1.le
      clear ih1
      (repeat' (first|refine Run.ct rfl ?_|((first|refine Run.reg mixed ?_|refine Run.condM ?_|(refine XApp.own ho' rfl (by simp) (by simp; omega) (by decide) (fun v3 σ3 ho3 hbk => ?_))|(refine xo_gs rfl (fun h => ?_) (fun h => ?_) <;> try (cases h; done))) <;> try simp -implicitDefEqProofs only [lt_f hlt1, hw1, ho1.cell, ho1.cells, ho1.noLp, ho1.lpOf, ho1.dv, ho.cell, ho.cells, ho.noLp, ho.lpOf, go_sem, Nat.reduceEqDiff, Nat.reduceBEq, Nat.reduceAdd, Nat.reduceLeDiff, reduceIte, reduceCtorEq])|(refine ⟨fun h => ?_, fun h => ?_⟩ <;> first|(cases h; done)|try simp only [h])|fail))
      simp -implicitDefEqProofs only [ho3.cells, ho3.cell, go_sem, Nat.reduceEqDiff, Nat.reduceBEq, Nat.reduceAdd, Nat.reduceLeDiff, reduceIte, reduceCtorEq]
      (repeat' (first|refine Run.ct rfl ?_|((first|refine Run.reg mixed ?_|refine Run.condM ?_|(refine xo_gs rfl (fun h => ?_) (fun h => ?_) <;> try (cases h; done))) <;> try simp -implicitDefEqProofs only [hw1, ho3.cell, ho3.cells, go_sem, Nat.reduceEqDiff, Nat.reduceBEq, Nat.reduceAdd, Nat.reduceLeDiff, reduceIte, reduceCtorEq])|(refine ⟨fun h => ?_, fun h => ?_⟩ <;> first|(cases h; done)|try simp only [h])|fail))
      exact ih (i + 1, v3, σ3) ⟨by simp only; omega, by simp only; rw [hnx]; exact ho3⟩ (by simp only; omega)
  rw [List.take_of_length_le (by omega)] at ho
  clear ih
  (repeat' (first|refine Run.ct rfl ?_|((first|refine Run.reg mixed ?_|refine Run.condM ?_|(refine xo_gs rfl (fun h => ?_) (fun h => ?_) <;> try (cases h; done))) <;> try simp -implicitDefEqProofs only [lt_f hlt, ho.cell, ho.cells, ho.noLp, ho.lpOf, List.length_map, go_sem, Nat.reduceEqDiff, Nat.reduceBEq, Nat.reduceAdd, Nat.reduceLeDiff, reduceIte, reduceCtorEq])|(refine ⟨fun h => ?_, fun h => ?_⟩ <;> first|(cases h; done)|try simp only [h])|fail))
  refine Run.loopA ?_
  refine Run.loopI ((fun (a1 : AV) (a4 : AV) (a5 : AV) (a71 : AV) (a72 : AV) => fun (y : Nat × AV × Heap) => put 1 a1 (put 4 a4 (put 5 a5 (put 71 a71 (put 72 a72 (put 73 (.d (.int .i64 y.1)) U)))))) _ _ _ _ _) (fun y => putL 4 [.nils, .nils] (putL 5 [v, y.2.1] E)) (fun y => y.2.2) (fun y => y.1 ≤ fs.length ∧ OwnS τ 54 8 (((fs.take y.1).map FE.ren).map FE.enc) y.2.1 y.2.2) (fun y => fs.length - y.1) ?_ (0, .nils, τ) ⟨by simp, OwnS.nil _ _ _⟩
  rintro ⟨i2, v2, τ2⟩ ⟨hi2, ho2⟩ ih
  simp only at hi2 ho2
  by_cases hlt2 : i2 < fs.length
  · obtain ⟨f, hf⟩ := ex_at hlt2
    have he := row_at (enc := FE.enc) hf
    have hw1 := wrap_succ (show i2 + 1 ≤ 9000000000000000000 by omega)
    obtain ⟨hf1, hf2, hf3, hf4⟩ := hfm f (List.mem_of_getElem? hf)
    have hnx : ((fs.take (i2 + 1)).map FE.ren).map FE.enc = ((fs.take i2).map FE.ren).map FE.enc ++ [f.ren.enc] := by
      rw [take_snoc hf]; simp
    obtain ⟨fn, fps, fb⟩ := f
    simp only at hf1 hf2 hf3 hf4
    have hc := keep_renamed_ok fb.size fb τ2 (Nat.le_refl _) (by omega) hf3
    have hsv := sufQ_ok fps hf2 τ2
    obtain ⟨xo, xn, xu, xns, xks, xal⟩ := fb
    simp only [FE.enc, FE.ren, exA, Ex.ren_mk, Ex.enc_mk, List.map_cons, List.map_nil] at he hc hnx
    (repeat' (first|refine Run.ct rfl ?_|((first|refine Run.reg mixed ?_|refine Run.condM ?_|(refine XApp.own ho2 rfl (by simp) (by simp; omega) (by decide) (fun v3 σ3 ho3 hbk => ?_))|refine XCall.det (hc) ?_|refine XCall.det (hsv) ?_|(refine xo_gs rfl (fun h => ?_) (fun h => ?_) <;> try (cases h; done))) <;> try simp -implicitDefEqProofs only [lt_t hlt2, he, hw1, ho2.cell, ho2.cells, ho2.noLp, ho2.lpOf, ho.cell, strA_add' (a := fn) (b := [81]) (by simp; omega), go_sem, Nat.reduceEqDiff, Nat.reduceBEq, Nat.reduceAdd, Nat.reduceLeDiff, reduceIte, reduceCtorEq])|(refine ⟨fun h => ?_, fun h => ?_⟩ <;> first|(cases h; done)|try simp only [h])|fail))
    simp -implicitDefEqProofs only [ho3.cells, ho3.cell, go_sem, Nat.reduceEqDiff, Nat.reduceBEq, Nat.reduceAdd, Nat.reduceLeDiff, reduceIte, reduceCtorEq]
    (repeat' (first|refine Run.ct rfl ?_|((first|refine Run.reg mixed ?_|refine Run.condM ?_|(refine xo_gs rfl (fun h => ?_) (fun h => ?_) <;> try (cases h; done))) <;> try simp -implicitDefEqProofs only [hw1, ho3.cell, ho3.cells, go_sem, Nat.reduceEqDiff, Nat.reduceBEq, Nat.reduceAdd, Nat.reduceLeDiff, reduceIte, reduceCtorEq])|(refine ⟨fun h => ?_, fun h => ?_⟩ <;> first|(cases h; done)|try simp only [h])|fail))
    exact ih (i2 + 1, v3, σ3) ⟨by simp only; omega, by simp only; rw [hnx]; exact ho3⟩ (by simp only; omega)
  · rw [List.take_of_length_le (by omega)] at ho2
    (repeat' (first|refine Run.ct rfl ?_|((first|refine Run.reg mixed ?_|refine Run.condM ?_|(refine Run.retP g_keep_Renamed (σ2 := σ) (Heap.le_trans ho.le ho2.le) ?_)|(refine xo_gs rfl (fun h => ?_) (fun h => ?_) <;> try (cases h; done))) <;> try simp -implicitDefEqProofs only [lt_f hlt2, ho.cell, ho.cells, ho.noLp, ho.lpOf, ho2.cell, ho2.cells, ho2.noLp, ho2.lpOf, go_sem, Nat.reduceEqDiff, Nat.reduceBEq, Nat.reduceAdd, Nat.reduceLeDiff, reduceIte, reduceCtorEq])|(refine ⟨fun h => ?_, fun h => ?_⟩ <;> first|(cases h; done)|try simp only [h])|fail))
    simp -implicitDefEqProofs only [ho.plain, ho.noLp, ho2.plain, ho2.noLp, go_sem, Nat.reduceEqDiff, Nat.reduceBEq, Nat.reduceAdd, Nat.reduceLeDiff, reduceIte, reduceCtorEq]
end Go.Ab
