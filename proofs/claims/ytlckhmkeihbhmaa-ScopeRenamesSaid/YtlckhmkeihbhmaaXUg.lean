/- Valid expressions, as the reference looks at them. Guarded operations that change nothing, run whatever the guard is. Valid expressions, as the reference looks at them: the nodes. Conditions: none. -/
import Derived.Test.YtlckhmkeihbhmaaXUe
set_option linter.unusedSimpArgs false
namespace Go.Ab
open Go.Proofs
def nodeR (o : Int) (n : Str) (u : Int) (ns : List Str) (nk na : Nat) : Bool :=
  nmB o n && nuB o u && nsB o ns && (if o = 10 then decide (1 ≤ na) else decide (na = 0)) && nkB o u nk
theorem nodeB_split (o : Int) (n : Str) (u : Int) (ns : List Str) (nk : Nat) (al : List Al) : nodeB o n u ns nk al = (nodeR o n u ns nk al.length && al.all altB) := by
  unfold nodeB nodeR asB
  split
  · cases nmB o n <;> cases nuB o u <;> cases nsB o ns <;> cases nkB o u nk <;> simp
  · cases al with
    | nil => simp
    | cons a l => simp
theorem bindsB_false (l : List Str) : bindsB l false = (decide (l.length ≤ 6) && l.all bindB) := by
  unfold bindsB
  congr 2
  funext s
  simp only [bindB, Bool.not_false, Bool.and_true]
  exact Bool.or_comm _ _
theorem bindsB_true (l : List Str) : bindsB l true = (decide (l.length ≤ 6) && l.all nameB) := by
  unfold bindsB
  congr 2
  funext s
  simp
def encR (r : Nat) : Int := (r : Int)
set_option maxHeartbeats 4000000 in
theorem r4_loops (j d q : Nat) (ihd : ∀ (q : Nat), q ≤ 600 → ∀ (e : Ex) (σ : Heap), σ.blk j = some [.d (.int .i64 (encR q))] → ACalls Try.prog 18 [exA e, .d (.int .i64 (d : Int)), .gp j 0] σ (VXQ encR j d q e σ)) (hd : d < 40) (hq : q ≤ 600)
    (o : Int) (n : Str) (u : Int) (ns : List Str) (ks : List Ex) (al : List Al) (σ : Heap) (hnode : nodeR o n u ns ks.length al.length = true) :
    Run x_r4_validExpr (VXQ encR j (d + 1) (q + 1) (.mk o n u ns ks al) σ) [.code (.loop c_r4_validExpr_L0), .blk 1, .code (.seq (.seq (.reg [⟨some 14, .mv (.c (.d (.int .i64 0))), none⟩] [1, 2, 3, 14]) (.block 3 (.loop c_r4_validExpr_L1))) (.seq (.reg [⟨some 6, .mv (.c (.d (.bool true))), none⟩] [6]) .ret))]
      (put 1 (.d (.int .i64 ((d + 1 : Nat) : Int))) (put 2 (.gp j 0) (put 3 (.lp 3 0) (put 13 (.d (.int .i64 0)) U)))) (putL 3 [.d (.int .i64 o), .d (.str n), .d (.int .i64 u), .d (.sl (ns.map sRow)), .d (.sl (ks.map Ex.enc)), .d (.sl (al.map Al.enc))] E) (σ.setBlk j [.d (.int .i64 (encR q))]) := by
  have hws : IntKind.i64.wrap (((d + 1 : Nat) : Int) - 1) = (d : Int) := wrap_sub1' (by omega)
  have hres : vEx (d + 1) (q + 1) (.mk o n u ns ks al) = if al.all altB then (ks.foldlM (fK d) q).bind fun q => al.foldlM (fA d) q else none := by rw [vEx_succ, nodeB_split, hnode, Bool.true_and]
  generalize hV : VXQ encR j (d + 1) (q + 1) (.mk o n u ns ks al) σ = V
  have hno : ∀ z, vEx (d + 1) (q + 1) (.mk o n u ns ks al) = none → V (.d (.bool false)) (σ.setBlk j [.d (.int .i64 z)]) := fun z h => by
    rw [← hV]; exact ⟨false, z, rfl, rfl, by rw [h]; rfl, fun r hr => by rw [h] at hr; cases hr⟩
  have hyes : ∀ r, vEx (d + 1) (q + 1) (.mk o n u ns ks al) = some r → V (.d (.bool true)) (σ.setBlk j [.d (.int .i64 (encR r))]) := fun z h => by
    rw [← hV]; exact ⟨true, _, rfl, rfl, by rw [h]; rfl, fun r hr => by rw [h] at hr; cases hr; rfl⟩
  clear hV
  refine Run.cell 3 4 rfl rfl (fun hb4 => ?_)
  refine Run.cell 3 5 rfl rfl (fun hb5 => ?_)
  simp only [AV.lenOk, List.length_map] at hb4 hb5
  refine Run.loopA ?_
  refine Run.loopI ((fun (a1 : AV) (a2 : AV) (a3 : AV) => fun (y : Nat × Nat) => put 1 a1 (put 2 a2 (put 3 a3 (put 13 (.d (.int .i64 y.1)) U)))) _ _ _) (fun _ => putL 3 [.d (.int .i64 o), .d (.str n), .d (.int .i64 u), .d (.sl (ns.map sRow)), .d (.sl (ks.map Ex.enc)), .d (.sl (al.map Al.enc))] E) (fun y => σ.setBlk j [.d (.int .i64 (encR y.2))])
    (fun y => y.1 ≤ ks.length ∧ y.2 ≤ q ∧ (ks.take y.1).foldlM (fK d) q = some y.2) (fun y => ks.length - y.1) ?_ (0, q) ⟨by simp, Nat.le_refl _, rfl⟩
  rintro ⟨i, p⟩ ⟨hi, hp, hok⟩ ih
  simp only at hi hp hok
  by_cases hlt : i < ks.length
  · obtain ⟨x, hx⟩ := ex_at hlt
    have he := row_at (enc := Ex.enc) hx
    have hw1 : IntKind.i64.wrap ((i : Int) + 1) = ((i + 1 : Nat) : Int) := by rw [wrap_pos (by omega) (by omega)]; omega
    have hc := ihd p (by omega) x (σ.setBlk j [.d (.int .i64 (encR p))]) (by simp only [setBlk_get, if_true])
    cases hv : vEx d p x with
    | some r =>
      have hr := vEx_le _ _ _ _ hv
      have hc := VXQ.yes hc hv
      have hs := foldM_snoc hok hx
      obtain ⟨xo, xn, xu, xs, xk, xa⟩ := x
      simp only [Ex.enc_mk, exA, List.map_cons, List.map_nil] at he hc
      (repeat' (first|refine Run.ct rfl ?_|((first|refine Run.reg mixed ?_|refine Run.condM ?_|(refine XCall.mk rfl hc ?_; rintro _ _ ⟨rfl, rfl⟩)|(refine xo_gs rfl (fun h => ?_) (fun h => ?_) <;> try (cases h; done))) <;> try simp -implicitDefEqProofs only [lt_t hlt, he, hw1, hws, List.length_map, go_sem, Nat.reduceEqDiff, Nat.reduceBEq, Nat.reduceAdd, Nat.reduceLeDiff, reduceIte, reduceCtorEq])|(refine ⟨fun h => ?_, fun h => ?_⟩ <;> first|(cases h; done)|try simp only [h])|fail))
      exact ih (i + 1, r) ⟨by simp only; omega, by simp only; omega, by simp only; rw [hs]; exact hv⟩ (by simp only; omega)
    | none =>
      have hc := VXQ.no hc hv
      have hs := foldM_none hok hx hv
      obtain ⟨xo, xn, xu, xs, xk, xa⟩ := x
      simp only [Ex.enc_mk, exA, List.map_cons, List.map_nil] at he hc
      (repeat' (first|refine Run.ct rfl ?_|((first|refine Run.reg mixed ?_|refine Run.condM ?_|refine Run.retR g_r4_validExpr (Heap.le_refl _) ?_|(refine XCall.mk rfl hc ?_; rintro _ _ ⟨rfl, z, rfl⟩)|(refine xo_gs rfl (fun h => ?_) (fun h => ?_) <;> try (cases h; done))) <;> try simp -implicitDefEqProofs only [lt_t hlt, he, hw1, hws, List.length_map, go_sem, Nat.reduceEqDiff, Nat.reduceBEq, Nat.reduceAdd, Nat.reduceLeDiff, reduceIte, reduceCtorEq])|(refine ⟨fun h => ?_, fun h => ?_⟩ <;> first|(cases h; done)|try simp only [h])|fail))
      refine hno z ?_
      rw [hres, hs]; split <;> rfl
  · rw [List.take_of_length_le (by omega)] at hok
    rw [hok, Option.bind_some] at hres
    clear ih
    (repeat' (first|refine Run.ct rfl ?_|((first|refine Run.reg mixed ?_|refine Run.condM ?_|(refine xo_gs rfl (fun h => ?_) (fun h => ?_) <;> try (cases h; done))) <;> try simp -implicitDefEqProofs only [lt_f hlt, List.length_map, go_sem, Nat.reduceEqDiff, Nat.reduceBEq, Nat.reduceAdd, Nat.reduceLeDiff, reduceIte, reduceCtorEq])|(refine ⟨fun h => ?_, fun h => ?_⟩ <;> first|(cases h; done)|try simp only [h])|fail))
    refine Run.loopA ?_
    refine Run.loopI ((fun (a1 : AV) (a2 : AV) (a3 : AV) => fun (y : Nat × Nat) => put 1 a1 (put 2 a2 (put 3 a3 (put 14 (.d (.int .i64 y.1)) U)))) _ _ _) (fun _ => putL 3 [.d (.int .i64 o), .d (.str n), .d (.int .i64 u), .d (.sl (ns.map sRow)), .d (.sl (ks.map Ex.enc)), .d (.sl (al.map Al.enc))] E) (fun y => σ.setBlk j [.d (.int .i64 (encR y.2))])
      (fun y => y.1 ≤ al.length ∧ y.2 ≤ q ∧ (al.take y.1).all altB = true ∧ (al.take y.1).foldlM (fA d) p = some y.2) (fun y => al.length - y.1) ?_ (0, p) ⟨by simp, hp, by simp, rfl⟩
    rintro ⟨i, p⟩ ⟨hi, hp, hab, hok⟩ ih
    simp only at hi hp hab hok
    by_cases hlt : i < al.length
    · obtain ⟨x, hx⟩ := ex_at hlt
      have he := row_at (enc := Al.enc) hx
      have hw1 : IntKind.i64.wrap ((i : Int) + 1) = ((i + 1 : Nat) : Int) := by rw [wrap_pos (by omega) (by omega)]; omega
      cases halt : altB x with
      | false =>
        have hna : al.all altB = false := all_at hx halt
        rw [hna] at hres
        have hnz := hno (encR p) (by rw [hres]; rfl)
        obtain ⟨xc, xv, xo, xn, xu, xs, xk, xa⟩ := x
        simp only [Al.enc_mk] at he
        cases hup : upperB xc with
        | false =>
          have h1 := r4_single_ok xc 2 (σ.setBlk j [.d (.int .i64 (encR p))])
          rw [show singleB 2 xc = upperB xc from rfl, hup] at h1
          (repeat' (first|refine Run.ct rfl ?_|((first|refine Run.reg mixed ?_|refine Run.condM ?_|refine Run.retR g_r4_validExpr (Heap.le_refl _) ?_|refine XCall.det (h1) ?_|(refine xo_gs rfl (fun h => ?_) (fun h => ?_) <;> try (cases h; done))) <;> try simp -implicitDefEqProofs only [lt_t hlt, he, hw1, hws, List.length_map, go_sem, Nat.reduceEqDiff, Nat.reduceBEq, Nat.reduceAdd, Nat.reduceLeDiff, reduceIte, reduceCtorEq])|(refine ⟨fun h => ?_, fun h => ?_⟩ <;> first|(cases h; done)|try simp only [h])|fail))
          exact hnz
        | true =>
          have h1 := r4_single_ok xc 2 (σ.setBlk j [.d (.int .i64 (encR p))])
          rw [show singleB 2 xc = upperB xc from rfl, hup] at h1
          have h2 := r4_binds_ok xv false (σ.setBlk j [.d (.int .i64 (encR p))])
          have hb : bindsB xv false = false := by
            rw [bindsB_false]
            simp only [altB, hup, Bool.true_and] at halt
            exact halt
          rw [hb] at h2
          (repeat' (first|refine Run.ct rfl ?_|((first|refine Run.reg mixed ?_|refine Run.condM ?_|refine Run.retR g_r4_validExpr (Heap.le_refl _) ?_|refine XCall.det (h1) ?_|refine XCall.det (h2) ?_|(refine xo_gs rfl (fun h => ?_) (fun h => ?_) <;> try (cases h; done))) <;> try simp -implicitDefEqProofs only [lt_t hlt, he, hw1, hws, List.length_map, go_sem, Nat.reduceEqDiff, Nat.reduceBEq, Nat.reduceAdd, Nat.reduceLeDiff, reduceIte, reduceCtorEq])|(refine ⟨fun h => ?_, fun h => ?_⟩ <;> first|(cases h; done)|try simp only [h])|fail))
          exact hnz
      | true =>
        have hab2 := all_snoc hab hx halt
        obtain ⟨xc, xv, x⟩ := x
        have hup : upperB xc = true := by simp only [altB, Bool.and_eq_true] at halt; exact halt.1.1
        have hbn : bindsB xv false = true := by rw [bindsB_false]; simp only [altB, Bool.and_eq_true] at halt ⊢; exact ⟨halt.1.2, halt.2⟩
        have h1 := r4_single_ok xc 2 (σ.setBlk j [.d (.int .i64 (encR p))])
        rw [show singleB 2 xc = upperB xc from rfl, hup] at h1
        have h2 := r4_binds_ok xv false (σ.setBlk j [.d (.int .i64 (encR p))])
        rw [hbn] at h2
        have hc := ihd p (by omega) x (σ.setBlk j [.d (.int .i64 (encR p))]) (by simp only [setBlk_get, if_true])
        cases hv : vEx d p x with
        | some r =>
          have hr := vEx_le _ _ _ _ hv
          have hc := VXQ.yes hc hv
          have hs := foldM_snoc hok hx
          obtain ⟨xo, xn, xu, xs, xk, xa⟩ := x
          simp only [Al.enc_mk, Ex.enc_mk, exA, List.map_cons, List.map_nil] at he hc
          (repeat' (first|refine Run.ct rfl ?_|((first|refine Run.reg mixed ?_|refine Run.condM ?_|(refine XCall.mk rfl hc ?_; rintro _ _ ⟨rfl, rfl⟩)|refine XCall.det (h1) ?_|refine XCall.det (h2) ?_|(refine xo_gs rfl (fun h => ?_) (fun h => ?_) <;> try (cases h; done))) <;> try simp -implicitDefEqProofs only [lt_t hlt, he, hw1, hws, List.length_map, go_sem, Nat.reduceEqDiff, Nat.reduceBEq, Nat.reduceAdd, Nat.reduceLeDiff, reduceIte, reduceCtorEq])|(refine ⟨fun h => ?_, fun h => ?_⟩ <;> first|(cases h; done)|try simp only [h])|fail))
          exact ih (i + 1, r) ⟨by simp only; omega, by simp only; omega, hab2, by simp only; rw [hs]; exact hv⟩ (by simp only; omega)
        | none =>
          have hc := VXQ.no hc hv
          have hs := foldM_none hok hx hv
          obtain ⟨xo, xn, xu, xs, xk, xa⟩ := x
          simp only [Al.enc_mk, Ex.enc_mk, exA, List.map_cons, List.map_nil] at he hc
          (repeat' (first|refine Run.ct rfl ?_|((first|refine Run.reg mixed ?_|refine Run.condM ?_|refine Run.retR g_r4_validExpr (Heap.le_refl _) ?_|(refine XCall.mk rfl hc ?_; rintro _ _ ⟨rfl, z, rfl⟩)|refine XCall.det (h1) ?_|refine XCall.det (h2) ?_|(refine xo_gs rfl (fun h => ?_) (fun h => ?_) <;> try (cases h; done))) <;> try simp -implicitDefEqProofs only [lt_t hlt, he, hw1, hws, List.length_map, go_sem, Nat.reduceEqDiff, Nat.reduceBEq, Nat.reduceAdd, Nat.reduceLeDiff, reduceIte, reduceCtorEq])|(refine ⟨fun h => ?_, fun h => ?_⟩ <;> first|(cases h; done)|try simp only [h])|fail))
          refine hno z ?_
          rw [hres, hs]; split <;> rfl
    · rw [List.take_of_length_le (by omega)] at hok hab
      (repeat' (first|refine Run.ct rfl ?_|((first|refine Run.reg mixed ?_|refine Run.condM ?_|refine Run.retR g_r4_validExpr (Heap.le_refl _) ?_|(refine xo_gs rfl (fun h => ?_) (fun h => ?_) <;> try (cases h; done))) <;> try simp -implicitDefEqProofs only [lt_f hlt, List.length_map, go_sem, Nat.reduceEqDiff, Nat.reduceBEq, Nat.reduceAdd, Nat.reduceLeDiff, reduceIte, reduceCtorEq])|(refine ⟨fun h => ?_, fun h => ?_⟩ <;> first|(cases h; done)|try simp only [h])|fail))
      exact hyes p (by rw [hres, hab, if_pos rfl, hok])
end Go.Ab

namespace Go.Ab
open Go.RowKit
variable {P : Program} {K : Kont} {F : Fm} {L : Lm} {σ : Heap}
def sel (c : Bool) (v : AV) : AV := if c then v else .tup []
theorem sel_t (v : AV) : sel true v = v := rfl
def GV (want : Bool) (x : AV) (c : Bool) : Prop := gdV want x = some c
theorem GV.t {b : Bool} : GV true (.d (.bool b)) b := by cases b <;> rfl
theorem GV.f {b : Bool} : GV false (.d (.bool b)) (!b) := by cases b <;> rfl
theorem GV.st {b c : Bool} : GV true (sel c (.d (.bool b))) (c && b) := by cases b <;> cases c <;> rfl
theorem GV.sf {b c : Bool} : GV false (sel c (.d (.bool b))) (c && !b) := by cases b <;> cases c <;> rfl
def Is (d : Nat) (v : AV) (F : Fm) (L : Lm) (σ : Heap) : Kont := fun F' L' σ' => F' = put d v F ∧ L' = L ∧ σ' = σ
theorem Is.mk {d : Nat} {v : AV} : Is d v F L σ (put d v F) L σ := ⟨rfl, rfl, rfl⟩
theorem xo_gm {d s : Nat} {o : O} {want c : Bool} {v : AV} {r : List Q} (hg : GV want (F s) c)
    (hy : c = true → XOps P (Is d v F L σ) [⟨some d, o, none⟩] F L σ)
    (hk : XOps P K r (put d (sel c v) F) L σ) : XOps P K (⟨some d, o, some (s, want)⟩ :: r) F L σ := by
  show XG (gd F (some (s, want))) (XO P (some d) (XOps P K r) F L σ o) (XOps P K r (putO (some d) (.tup []) F) L σ)
  have hgd : gd F (some (s, want)) = some c := hg
  rw [hgd]
  cases c with
  | true => exact XO_all (fun F' L' σ' ⟨h1, h2, h3⟩ => by rw [h1, h2, h3]; exact hk) (hy rfl)
  | false => exact hk
theorem pk_and (c x : Bool) : (if c = true then sel c (.d (.bool x)) else (.d (.bool false))) = AV.d (.bool (c && x)) := by cases c <;> rfl
theorem pk_or (c x : Bool) : (if c = true then (.d (.bool true)) else sel (!c) (.d (.bool x))) = AV.d (.bool (c || x)) := by cases c <;> rfl
end Go.Ab
namespace Go.Ab
theorem xo_gm2 {P : Program} {K : Kont} {F : Fm} {L : Lm} {σ : Heap} {d s : Nat} {o : O} {want c : Bool} {r : List Q} (hg : GV want (F s) c)
    (h : ∃ v, (c = true → XOps P (Is d v F L σ) [⟨some d, o, none⟩] F L σ) ∧ XOps P K r (put d (sel c v) F) L σ) : XOps P K (⟨some d, o, some (s, want)⟩ :: r) F L σ := by
  obtain ⟨v, h1, h2⟩ := h
  exact xo_gm hg h1 h2
end Go.Ab
namespace Go.Ab
theorem Is.pv {d : Nat} {v : AV} {F : Fm} {L : Lm} {σ : Heap} {x : Option AV} (h : x = some v) : XPv x (some d) (Is d v F L σ) F L σ := by
  subst h; exact Is.mk
theorem XCall.eqArgs {P : Program} {f : FuncId} {args args' : List AV} {d : Option Nat} {K : Kont} {F : Fm} {L : Lm} {σ : Heap} (e : args = args') (h : XCall P f args' d K F L σ) : XCall P f args d K F L σ := e ▸ h
end Go.Ab
namespace Go.Ab
theorem sel_sel (c : Bool) (v : AV) : sel c (sel c v) = sel c v := by cases c <;> rfl
theorem sel_sl (c x : Bool) (v : AV) : sel (c && x) (sel c v) = sel (c && x) v := by cases c <;> cases x <;> rfl
theorem sel_sr (c x : Bool) (v : AV) : sel (c && x) (sel x v) = sel (c && x) v := by cases c <;> cases x <;> rfl
end Go.Ab
namespace Go.Ab
theorem pk_or2 (c x : Bool) : (if (!c) = true then (.d (.bool true)) else sel c (.d (.bool x))) = AV.d (.bool (!c || x)) := by cases c <;> rfl
end Go.Ab

namespace Go.Ab
open Go.Proofs
def chkR (nm nu nn na : Bool) (lo hi : Nat) (n : Str) (u : Int) (a k b : Nat) : Bool :=
  (nm || n == []) && (nu || u == 0) && (nn || decide (a = 0)) && (na || decide (b = 0)) && decide (lo ≤ k) && decide (k ≤ hi)
set_option maxHeartbeats 4000000 in
theorem r4_check (o : Int) (n : Str) (u : Int) (ns : List Str) (ks : List Ex) (al : List Al) (d j : Nat) (σ : Heap) (nm nu nn na : Bool) (lo hi : Nat) :
   XOps Try.prog (Cut [1, 2, 3, 201] (put 1 (.d (.int .i64 ((d + 1 : Nat) : Int))) (put 2 (.gp j 0) (put 3 (.lp 3 0) (put 201 (.d (.bool (!chkR nm nu nn na lo hi n u ns.length ks.length al.length))) U)))) (putL 3 [.d (.int .i64 o), .d (.str n), .d (.int .i64 u), .d (.sl (ns.map sRow)), .d (.sl (ks.map Ex.enc)), .d (.sl (al.map Al.enc))] E) σ)
     [⟨some 152, .mv (.t 7), none⟩, ⟨some 153, .un .not (.t 152), none⟩, ⟨some 154, .mv (.t 153), none⟩, ⟨some 155, .fld (.t 3) 1, some (154, true)⟩, ⟨some 156, .ldl (.t 155) none, some (154, true)⟩, ⟨some 157, .bin .neq (.t 156) (.c (.d (.str []))), some (154, true)⟩, ⟨some 158, .pick (.t 154) (.t 157) (.c (.d (.bool false))), none⟩, ⟨some 159, .mv (.t 158), none⟩, ⟨some 160, .mv (.t 8), some (159, false)⟩, ⟨some 161, .un .not (.t 160), some (159, false)⟩, ⟨some 162, .mv (.t 161), some (159, false)⟩, ⟨some 163, .fld (.t 3) 2, some (162, true)⟩, ⟨some 164, .ldl (.t 163) none, some (162, true)⟩, ⟨some 165, .bin .neq (.t 164) (.c (.d (.int .i64 0))), some (162, true)⟩, ⟨some 166, .pick (.t 162) (.t 165) (.c (.d (.bool false))), some (159, false)⟩, ⟨some 167, .pick (.t 159) (.c (.d (.bool true))) (.t 166), none⟩, ⟨some 168, .mv (.t 167), none⟩, ⟨some 169, .mv (.t 9), some (168, false)⟩, ⟨some 170, .un .not (.t 169), some (168, false)⟩, ⟨some 171, .mv (.t 170), some (168, false)⟩, ⟨some 172, .fld (.t 3) 3, some (171, true)⟩, ⟨some 173, .ldl (.t 172) none, some (171, true)⟩, ⟨some 174, .len (.t 173), some (171, true)⟩, ⟨some 175, .bin .gtr (.t 174) (.c (.d (.int .i64 0))), some (171, true)⟩, ⟨some 176, .pick (.t 171) (.t 175) (.c (.d (.bool false))), some (168, false)⟩, ⟨some 177, .pick (.t 168) (.c (.d (.bool true))) (.t 176), none⟩, ⟨some 178, .mv (.t 177), none⟩, ⟨some 179, .mv (.t 10), some (178, false)⟩, ⟨some 180, .un .not (.t 179), some (178, false)⟩, ⟨some 181, .mv (.t 180), some (178, false)⟩, ⟨some 182, .fld (.t 3) 5, some (181, true)⟩, ⟨some 183, .ldl (.t 182) none, some (181, true)⟩, ⟨some 184, .len (.t 183), some (181, true)⟩, ⟨some 185, .bin .gtr (.t 184) (.c (.d (.int .i64 0))), some (181, true)⟩, ⟨some 186, .pick (.t 181) (.t 185) (.c (.d (.bool false))), some (178, false)⟩, ⟨some 187, .pick (.t 178) (.c (.d (.bool true))) (.t 186), none⟩, ⟨some 188, .mv (.t 187), none⟩, ⟨some 189, .fld (.t 3) 4, some (188, false)⟩, ⟨some 190, .ldl (.t 189) none, some (188, false)⟩, ⟨some 191, .len (.t 190), some (188, false)⟩, ⟨some 192, .mv (.t 11), some (188, false)⟩, ⟨some 193, .bin .lss (.t 191) (.t 192), some (188, false)⟩, ⟨some 194, .pick (.t 188) (.c (.d (.bool true))) (.t 193), none⟩, ⟨some 195, .mv (.t 194), none⟩, ⟨some 196, .fld (.t 3) 4, some (195, false)⟩, ⟨some 197, .ldl (.t 196) none, some (195, false)⟩, ⟨some 198, .len (.t 197), some (195, false)⟩, ⟨some 199, .mv (.t 12), some (195, false)⟩, ⟨some 200, .bin .gtr (.t 198) (.t 199), some (195, false)⟩, ⟨some 201, .pick (.t 195) (.c (.d (.bool true))) (.t 200), none⟩]
     (put 1 (.d (.int .i64 ((d + 1 : Nat) : Int))) (put 2 (.gp j 0) (put 3 (.lp 3 0) (put 7 (.d (.bool nm)) (put 8 (.d (.bool nu)) (put 9 (.d (.bool nn)) (put 10 (.d (.bool na)) (put 11 (.d (.int .i64 (lo : Nat))) (put 12 (.d (.int .i64 (hi : Nat))) U))))))))) (putL 3 [.d (.int .i64 o), .d (.str n), .d (.int .i64 u), .d (.sl (ns.map sRow)), .d (.sl (ks.map Ex.enc)), .d (.sl (al.map Al.enc))] E) σ := by
  have fin : ∀ (b c : Bool), (b = true ↔ c = true) → ∀ (a1 a2 a3 : AV), (put 1 a1 (put 2 a2 (put 3 a3 (put 201 (.d (.bool b)) U)))) = put 1 a1 (put 2 a2 (put 3 a3 (put 201 (.d (.bool c)) U))) := fun b c h a1 a2 a3 => by rw [Bool.eq_iff_iff.2 h]
  simp -implicitDefEqProofs only [strA_neq, go_sem, Nat.reduceEqDiff, Nat.reduceBEq, Nat.reduceAdd, Nat.reduceLeDiff, reduceIte, reduceCtorEq]
  (repeat' (first|refine Run.ct rfl ?_|(refine xo_gm2 (by first|exact GV.t|exact GV.f|exact GV.st|exact GV.sf) ⟨?_, fun h => ?_, ?_⟩; rotate_left; (focus ((try simp only [Bool.and_eq_true, Bool.not_not] at h); simp -implicitDefEqProofs only [List.length_map, strA_neq, gtN, ltN, go_sem, Nat.reduceEqDiff, Nat.reduceBEq, Nat.reduceAdd, Nat.reduceLeDiff, reduceIte, reduceCtorEq]; first|exact Is.mk|exact Is.pv (by simp -implicitDefEqProofs only [h, sel_t, ↓pk_and, ↓pk_or, ↓pk_or2, List.length_map, strA_neq, gtN, ltN, go_sem, Nat.reduceEqDiff, Nat.reduceBEq, Nat.reduceAdd, Nat.reduceLeDiff, reduceIte, reduceCtorEq]; rfl))); (try simp -implicitDefEqProofs only [sel_sel, sel_sl, sel_sr, ↓pk_and, ↓pk_or, ↓pk_or2, List.length_map, strA_neq, gtN, ltN, rs_r4_validExpr, go_sem, Nat.reduceEqDiff, Nat.reduceBEq, Nat.reduceAdd, Nat.reduceLeDiff, reduceIte, reduceCtorEq]))|((first|refine Run.reg mixed ?_|refine Run.condM ?_|(refine xo_gs rfl (fun h => ?_) (fun h => ?_) <;> try (cases h; done))) <;> try simp -implicitDefEqProofs only [sel_sel, sel_sl, sel_sr, ↓pk_and, ↓pk_or, ↓pk_or2, List.length_map, strA_neq, gtN, ltN, go_sem, Nat.reduceEqDiff, Nat.reduceBEq, Nat.reduceAdd, Nat.reduceLeDiff, reduceIte, reduceCtorEq])|(refine ⟨fun h => ?_, fun h => ?_⟩ <;> first|(cases h; done)|try simp only [h])|fail))
  refine fin _ _ ?_ _ _ _
  simp only [chkR]
  simp [bne]
  grind
set_option maxHeartbeats 8000000 in
theorem r4_validExpr_ok (j : Nat) : ∀ (d q : Nat), d ≤ 40 → q ≤ 600 → ∀ (e : Ex) (σ : Heap), σ.blk j = some [.d (.int .i64 (encR q))] →
    ACalls Try.prog 18 [exA e, .d (.int .i64 (d : Int)), .gp j 0] σ (VXQ encR j d q e σ) := by
  intro d
  induction d with
  | zero =>
    intro q _ hq e σ hj
    obtain ⟨o, n, u, ns, ks, al⟩ := e
    refine i_r4_validExpr (by simp) ?_
    rw [argF_3, exA, Ex.enc_mk]
    have h0 : (((0 : Nat) : Int) == 0) = true := by decide
    (repeat' (first|refine Run.ct rfl ?_|((first|refine Run.reg mixed ?_|refine Run.condM ?_|refine Run.retR g_r4_validExpr (Heap.le_refl _) ?_|(refine xo_gs rfl (fun h => ?_) (fun h => ?_) <;> try (cases h; done))) <;> try simp -implicitDefEqProofs only [h0, go_sem, Nat.reduceEqDiff, Nat.reduceBEq, Nat.reduceAdd, Nat.reduceLeDiff, reduceIte, reduceCtorEq])|(refine ⟨fun h => ?_, fun h => ?_⟩ <;> first|(cases h; done)|try simp only [h])|fail))
    exact ⟨false, encR q, rfl, (setBlk_same hj).symm, rfl, fun r h => by cases h⟩
  | succ d ihd =>
    intro q hd hq e σ hj
    obtain ⟨o, n, u, ns, ks, al⟩ := e
    refine i_r4_validExpr (by simp) ?_
    rw [argF_3, exA, Ex.enc_mk]
    have h0 : (((d + 1 : Nat) : Int) == 0) = false := by simp only [beq_eq_false_iff_ne, ne_eq]; omega
    cases q with
    | zero =>
      have hz : (encR 0 == 0) = true := by decide
      (repeat' (first|refine Run.ct rfl ?_|((first|refine Run.reg mixed ?_|refine Run.condM ?_|refine Run.retR g_r4_validExpr (Heap.le_refl _) ?_|(refine xo_gs rfl (fun h => ?_) (fun h => ?_) <;> try (cases h; done))) <;> try simp -implicitDefEqProofs only [h0, hj, hz, go_sem, Nat.reduceEqDiff, Nat.reduceBEq, Nat.reduceAdd, Nat.reduceLeDiff, reduceIte, reduceCtorEq])|(refine ⟨fun h => ?_, fun h => ?_⟩ <;> first|(cases h; done)|try simp only [h])|fail))
      exact ⟨false, encR 0, rfl, (setBlk_same hj).symm, rfl, fun r h => by cases h⟩
    | succ q =>
    have hz : (encR (q + 1) == 0) = false := by simp only [encR, beq_eq_false_iff_ne, ne_eq]; omega
    have hwq : IntKind.i64.wrap (encR (q + 1) - 1) = encR q := wrap_sub1' (by omega)
    have hL := fun h => r4_loops j d q (fun q hq e σ h => ihd q (by omega) hq e σ h) (by omega) (by omega) o n u ns ks al σ h
    have hbt := r4_binds_ok ns true (σ.setBlk j [.d (.int .i64 (encR q))])
    have hbf := r4_binds_ok ns false (σ.setBlk j [.d (.int .i64 (encR q))])
    have hfail : nodeR o n u ns ks.length al.length = false → VXQ encR j (d + 1) (q + 1) (.mk o n u ns ks al) σ (.d (.bool false)) (σ.setBlk j [.d (.int .i64 (encR q))]) := fun h =>
      have hr : vEx (d + 1) (q + 1) (.mk o n u ns ks al) = none := by rw [vEx_succ, nodeB_split, h]; rfl
      ⟨false, _, rfl, rfl, by rw [hr]; rfl, fun r h => by rw [hr] at h; cases h⟩
    generalize hV : VXQ encR j (d + 1) (q + 1) (.mk o n u ns ks al) σ = V at hL hfail
    clear ihd hV
    (repeat' (first|refine Run.cb rfl ?_|((first|refine Run.reg mixed ?_|refine Run.condM ?_|(refine xo_gs rfl (fun h => ?_) (fun h => ?_) <;> try (cases h; done))) <;> try simp -implicitDefEqProofs only [h0, hj, hz, hwq, go_sem, Nat.reduceEqDiff, Nat.reduceBEq, Nat.reduceAdd, Nat.reduceLeDiff, reduceIte, reduceCtorEq])|(refine ⟨fun h => ?_, fun h => ?_⟩ <;> first|(cases h; done)|try simp only [h])|fail))
    refine Run.meetAt (α := Bool × Bool × Bool × Bool × Nat × Nat) [1, 2, 3, 7, 8, 9, 10, 11, 12] (fun a => put 1 (.d (.int .i64 ((d + 1 : Nat) : Int))) (put 2 (.gp j 0) (put 3 (.lp 3 0) (put 7 (.d (.bool a.1)) (put 8 (.d (.bool a.2.1)) (put 9 (.d (.bool a.2.2.1)) (put 10 (.d (.bool a.2.2.2.1)) (put 11 (.d (.int .i64 (a.2.2.2.2.1 : Nat))) (put 12 (.d (.int .i64 (a.2.2.2.2.2 : Nat))) U))))))))) (putL 3 [.d (.int .i64 o), .d (.str n), .d (.int .i64 u), .d (.sl (ns.map sRow)), .d (.sl (ks.map Ex.enc)), .d (.sl (al.map Al.enc))] E) (σ.setBlk j [.d (.int .i64 (encR q))]) (fun a => nodeR o n u ns ks.length al.length = chkR a.1 a.2.1 a.2.2.1 a.2.2.2.1 a.2.2.2.2.1 a.2.2.2.2.2 n u ns.length ks.length al.length) ?_ ?_
    · rintro ⟨nm, nu, nn, na, lo, hi⟩ hI
      simp only at hI ⊢
      (repeat (first
      | refine Run.seq ?_
      | refine Run.skip ?_
      | refine Run.block ?_
      | refine Run.blk ?_
      | refine Run.scope ?_
      | refine Run.scp ?_
      | (refine Run.exit rfl ?_)))
      refine Run.regCut mixed (put 1 (.d (.int .i64 ((d + 1 : Nat) : Int))) (put 2 (.gp j 0) (put 3 (.lp 3 0) (put 201 (.d (.bool (!chkR nm nu nn na lo hi n u ns.length ks.length al.length))) U)))) (putL 3 [.d (.int .i64 o), .d (.str n), .d (.int .i64 u), .d (.sl (ns.map sRow)), .d (.sl (ks.map Ex.enc)), .d (.sl (al.map Al.enc))] E) (σ.setBlk j [.d (.int .i64 (encR q))]) ?_ ?_
      · exact r4_check o n u ns ks al d j _ nm nu nn na lo hi
      · cases hc : chkR nm nu nn na lo hi n u ns.length ks.length al.length with
        | true =>
          (repeat' (first|refine Run.ct rfl ?_|((first|refine Run.reg mixed ?_|refine Run.condM ?_|(refine xo_gs rfl (fun h => ?_) (fun h => ?_) <;> try (cases h; done))) <;> try simp -implicitDefEqProofs only [hc, go_sem, Nat.reduceEqDiff, Nat.reduceBEq, Nat.reduceAdd, Nat.reduceLeDiff, reduceIte, reduceCtorEq])|(refine ⟨fun h => ?_, fun h => ?_⟩ <;> first|(cases h; done)|try simp only [h])|fail))
          exact hL (hI.trans hc)
        | false =>
          (repeat' (first|refine Run.ct rfl ?_|((first|refine Run.reg mixed ?_|refine Run.condM ?_|refine Run.retR g_r4_validExpr (Heap.le_refl _) ?_|(refine xo_gs rfl (fun h => ?_) (fun h => ?_) <;> try (cases h; done))) <;> try simp -implicitDefEqProofs only [go_sem, Nat.reduceEqDiff, Nat.reduceBEq, Nat.reduceAdd, Nat.reduceLeDiff, reduceIte, reduceCtorEq])|(refine ⟨fun h => ?_, fun h => ?_⟩ <;> first|(cases h; done)|try simp only [h])|fail))
          exact hfail (hI.trans hc)
    · intro hrest
      clear hL
      have key := fun (F' : Fm) (L' : Lm) (nm nu nn na : Bool) (lo hi : Nat) h1 h2 h3 => hrest F' L' (nm, nu, nn, na, lo, hi) h1 h2 h3
      simp only at key
      clear hrest
      have fin : ∀ b c : Bool, (b = true ↔ c = true) → b = c := fun b c h => Bool.eq_iff_iff.2 h
      by_cases ho : o = 1 ∨ o = 2 ∨ o = 3 ∨ o = 4 ∨ o = 5 ∨ o = 6 ∨ o = 7 ∨ o = 8 ∨ o = 9 ∨ o = 10 ∨ o = 11 ∨ o = 12 ∨ o = 13 ∨ o = 14 ∨ o = 15 ∨ o = 16 ∨ o = 17
      · rcases ho with rfl | rfl | rfl | rfl | rfl | rfl | rfl | rfl | rfl | rfl | rfl | rfl | rfl | rfl | rfl | rfl | rfl
        all_goals (repeat' (first|(refine key _ _ ?_ ?_ ?_ ?_ ?_ ?_ ?_ ?_ ?_; rotate_left 6; (focus (simp only [go_sem, Nat.reduceEqDiff, Nat.reduceBEq, Nat.reduceAdd, Nat.reduceLeDiff, reduceIte, reduceCtorEq]; rfl)); (focus (simp only [go_sem, Nat.reduceEqDiff, Nat.reduceBEq, Nat.reduceAdd, Nat.reduceLeDiff, reduceIte, reduceCtorEq])))|refine Run.ct rfl ?_|(refine xo_gm2 (by first|exact GV.t|exact GV.f|exact GV.st|exact GV.sf) ⟨?_, fun h => ?_, ?_⟩; rotate_left; (focus ((try simp only [Bool.and_eq_true, Bool.not_not] at h); simp -implicitDefEqProofs only [Int.reduceBEq, List.length_map, strA_eql, go_sem, Nat.reduceEqDiff, Nat.reduceBEq, Nat.reduceAdd, Nat.reduceLeDiff, reduceIte, reduceCtorEq]; first|exact Is.mk|exact Is.pv (by simp -implicitDefEqProofs only [h, sel_t, ↓pk_and, ↓pk_or, ↓pk_or2, Int.reduceBEq, List.length_map, strA_eql, go_sem, Nat.reduceEqDiff, Nat.reduceBEq, Nat.reduceAdd, Nat.reduceLeDiff, reduceIte, reduceCtorEq]; rfl)|(refine XCall.det (r4_single_ok _ _ _) ?_; exact Is.mk)|(refine XCall.det (primArity_ok _ _) ?_; exact Is.mk)|(refine XCall.det (hbt) ?_; exact Is.mk)|(refine XCall.det (hbf) ?_; exact Is.mk)|(refine XCall.eqArgs (by simp only [h, sel_t]; rfl) ?_; first|(refine XCall.det (r4_single_ok _ _ _) ?_; exact Is.mk)|(refine XCall.det (primArity_ok _ _) ?_; exact Is.mk)|(refine XCall.det (hbt) ?_; exact Is.mk)|(refine XCall.det (hbf) ?_; exact Is.mk)))); (try simp -implicitDefEqProofs only [sel_sel, sel_sl, sel_sr, ↓pk_and, ↓pk_or, ↓pk_or2, Int.reduceBEq, List.length_map, strA_eql, rs_r4_validExpr, go_sem, Nat.reduceEqDiff, Nat.reduceBEq, Nat.reduceAdd, Nat.reduceLeDiff, reduceIte, reduceCtorEq]))|((first|refine Run.reg mixed ?_|refine Run.condM ?_|refine Run.retR g_r4_validExpr (Heap.le_refl _) ?_|refine XCall.det (r4_single_ok _ _ _) ?_|refine XCall.det (primArity_ok _ _) ?_|refine XCall.det (hbt) ?_|refine XCall.det (hbf) ?_|(refine xo_gs rfl (fun h => ?_) (fun h => ?_) <;> try (cases h; done))) <;> try simp -implicitDefEqProofs only [sel_sel, sel_sl, sel_sr, ↓pk_and, ↓pk_or, ↓pk_or2, Int.reduceBEq, List.length_map, strA_eql, go_sem, Nat.reduceEqDiff, Nat.reduceBEq, Nat.reduceAdd, Nat.reduceLeDiff, reduceIte, reduceCtorEq])|(refine ⟨fun h => ?_, fun h => ?_⟩ <;> first|(cases h; done)|try simp only [h])|fail))
        all_goals clear key
        all_goals (try refine hfail ?_)
        all_goals clear hfail hbt hbf hj hz hwq h0
        all_goals (refine fin _ _ ?_; simp [nodeR, chkR, nmB, nuB, nsB, nkB, nameB, upperB, bindB, bindsB_true, bindsB_false, *] at *; try grind)
      · have hn : nodeR o n u ns ks.length al.length = false := by
          simp only [not_or] at ho
          simp [nodeR, nkB, ho]
        simp only [not_or] at ho
        obtain ⟨h1, h2, h3, h4, h5, h6, h7, h8, h9, h10, h11, h12, h13, h14, h15, h16, h17⟩ := ho
        (repeat' (first|refine Run.ct rfl ?_|((first|refine Run.reg mixed ?_|refine Run.condM ?_|refine Run.retR g_r4_validExpr (Heap.le_refl _) ?_|(refine xo_gs rfl (fun h => ?_) (fun h => ?_) <;> try (cases h; done))) <;> try simp -implicitDefEqProofs only [beqF h1, beqF h2, beqF h3, beqF h4, beqF h5, beqF h6, beqF h7, beqF h8, beqF h9, beqF h10, beqF h11, beqF h12, beqF h13, beqF h14, beqF h15, beqF h16, beqF h17, go_sem, Nat.reduceEqDiff, Nat.reduceBEq, Nat.reduceAdd, Nat.reduceLeDiff, reduceIte, reduceCtorEq])|(refine ⟨fun h => ?_, fun h => ?_⟩ <;> first|(cases h; done)|try simp only [h])|fail))
        exact hfail hn
end Go.Ab
