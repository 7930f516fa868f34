/- Scope: the alternatives of a match, looked at. Scope: what is looked at in a node. Conditions: none. -/
import Derived.Test.YtlckhmkeihbhmaaXVc
set_option linter.unusedSimpArgs false
namespace Go.Ab
open Go.Proofs
def SeenS (dt : List Dat) (σ : Heap) (xs : List (Nat × Nat)) (v : AV) (τ : Heap) : Prop :=
  (xs = [] ∧ v = .nils ∧ τ = σ) ∨ (xs ≠ [] ∧ ∃ k e, σ.blk k = none ∧ v = .ms k (nCons dt (fstD xs)) 1 e ∧ τ = σ.setBlk k (bools (flg xs (fstD xs) (nCons dt (fstD xs)))))
theorem SeenS.le {dt : List Dat} {σ τ : Heap} {xs : List (Nat × Nat)} {v : AV} (h : SeenS dt σ xs v τ) : σ.le τ := by
  rcases h with ⟨_, _, rfl⟩ | ⟨_, k, e, hk, _, rfl⟩
  · exact Heap.le_refl _
  · exact le_setBlk hk
theorem nCons_at {dt : List Dat} {d : Nat} {x : Dat} (h : dt[d]? = some x) : nCons dt d = x.cons.length := by simp [nCons, h]
theorem altsGo_bd {dt : List Dat} : ∀ {l : List Al} {xs : List (Nat × Nat)}, altsGo dt l = .ok xs → ∀ x ∈ xs, x.2 < nCons dt x.1
  | [], xs, h => by simp only [altsGo, Except.ok.injEq] at h; subst h; simp
  | .mk c vs b :: l, xs, h => by
    rw [altsGo] at h
    cases hc : ctrP dt c with
    | none => rw [hc] at h; cases h
    | some x =>
      rw [hc] at h
      simp only at h
      split at h
      · cases h
      · split at h
        · cases h
        · cases hl : altsGo dt l with
          | error e => rw [hl] at h; cases h
          | ok ys =>
            rw [hl] at h
            simp only [Except.map, Except.ok.injEq] at h
            subst h
            intro y hy
            rcases List.mem_cons.1 hy with rfl | hy
            · obtain ⟨d, cc, h1, h2, _⟩ := ctrP_spec hc
              rw [nCons_at h1]
              exact (List.getElem?_eq_some_iff.1 h2).1
            · exact altsGo_bd hl y hy
theorem exB_nil : exB [] = true := rfl
theorem fstD_app {xs : List (Nat × Nat)} (h : xs ≠ []) (y : Nat × Nat) : fstD (xs ++ [y]) = fstD xs := by
  cases xs with
  | nil => exact absurd rfl h
  | cons x l => rfl
set_option maxRecDepth 4000 in
set_option maxHeartbeats 8000000 in
theorem alts_ok (ds : List DE) (fs : List FE) (dt : List Dat) (hdt : DtOk dt) (al : List Al) (σ : Heap) (hal : al.length ≤ 1000000) :
    ACalls Try.prog 43 [.agg [.d (.sl (ds.map DE.enc)), .d (.sl (fs.map FE.enc)), .d (.sl (dt.map Dat.enc))], .d (.sl (al.map Al.enc))] σ (fun v σ' => v = .d (.int .i64 (altsP dt al)) ∧ σ' = σ) := by
  refine i_scope_checker_alts (by simp) ?_
  rw [argF_2]
  (repeat' (first|refine Run.ct rfl ?_|((first|refine Run.reg mixed ?_|refine Run.condM ?_|(refine xo_gs rfl (fun h => ?_) (fun h => ?_) <;> try (cases h; done))) <;> try simp -implicitDefEqProofs only [List.length_map, go_sem, Nat.reduceEqDiff, Nat.reduceBEq, Nat.reduceAdd, Nat.reduceLeDiff, reduceIte, reduceCtorEq])|(refine ⟨fun h => ?_, fun h => ?_⟩ <;> first|(cases h; done)|try simp only [h])|fail))
  refine Run.loopA ?_
  refine Run.loopI ((fun (a2 : AV) (a13 : AV) (a14 : AV) => fun (y : Nat × List (Nat × Nat) × AV × Heap) => put 2 a2 (put 5 (.d (.bool (exB y.2.1))) (put 6 (.d (.int .i64 (fstD y.2.1))) (put 7 (y.2.2.1) (put 13 a13 (put 14 a14 (put 15 (.d (.int .i64 y.1)) U))))))) _ _ _) (fun _ => putL 2 [.d (.sl (ds.map DE.enc)), .d (.sl (fs.map FE.enc)), .d (.sl (dt.map Dat.enc))] E) (fun y => y.2.2.2)
    (fun y => y.1 ≤ al.length ∧ y.2.1.length = y.1 ∧ altsGo dt (al.take y.1) = .ok y.2.1 ∧ SeenS dt σ y.2.1 y.2.2.1 y.2.2.2) (fun y => al.length - y.1) ?_ (0, [], .nils, σ) ⟨by simp, rfl, rfl, .inl ⟨rfl, rfl, rfl⟩⟩
  rintro ⟨i, xs, sv, τ⟩ ⟨hi, hlx, hok, hseen⟩ ih
  simp only at hi hlx hok hseen
  by_cases hlt : i < al.length
  · obtain ⟨a, ha⟩ := ex_at hlt
    have he := row_at (enc := Al.enc) ha
    have hw1 := wrap_succ (show i + 1 ≤ 9000000000000000000 by omega)
    have hall : altsGo dt al = (altsGo dt (a :: al.drop (i + 1))).map (xs ++ ·) := by
      conv => lhs; rw [← List.take_append_drop i al, drop_at ha]
      exact altsGo_app dt _ hok
    have hsn : altsGo dt (al.take (i + 1)) = (altsGo dt [a]).map (xs ++ ·) := by
      rw [take_snoc ha]; exact altsGo_app dt _ hok
    obtain ⟨c, vs, o, n, u, ns, ks, aa⟩ := a
    rw [altsGo] at hall hsn
    simp only [Al.enc_mk] at he
    have hctr := Constructor_ok dt hdt c τ
    rw [dsA] at hctr
    have herr : ∀ e : Int, altsGo dt al = .error e → altsP dt al = e := fun e h => by rw [altsP, h]
    cases hc : ctrP dt c with
    | none =>
      rw [hc] at hctr hall
      simp only [ctrA] at hctr
      (repeat' (first|refine Run.ct rfl ?_|((first|refine Run.reg mixed ?_|refine Run.condM ?_|(refine Run.retP g_scope_checker_alts hseen.le ?_)|refine XCall.det (hctr) ?_|(refine xo_gs rfl (fun h => ?_) (fun h => ?_) <;> try (cases h; done))) <;> try simp -implicitDefEqProofs only [lt_t hlt, he, go_sem, Nat.reduceEqDiff, Nat.reduceBEq, Nat.reduceAdd, Nat.reduceLeDiff, reduceIte, reduceCtorEq])|(refine ⟨fun h => ?_, fun h => ?_⟩ <;> first|(cases h; done)|try simp only [h])|fail))
      rw [herr 3 (by rw [hall]; rfl)]
    | some x =>
    rw [hc] at hctr hall hsn
    simp only [ctrA] at hctr hall hsn
    obtain ⟨d, cc, h1, h2, _⟩ := ctrP_spec hc
    have har := ctrP_arity (s := []) h1 h2
    have hn := nCons_at h1
    have hdl := hdt d (List.mem_of_getElem? h1)
    have hkn : x.2 < d.cons.length := (List.getElem?_eq_some_iff.1 h2).1
    have hd := dats_at h1
    have hcc := cons_at h2
    rw [har] at hall hsn
    have hix : natA (.d (.int .i64 (x.1 : Int))) = some x.1 := by simp [natA]
    by_cases hA : vs.length ≠ cc.args.length
    · rw [if_pos hA] at hall
      have hA' : ((vs.length : Int) != (cc.args.length : Int)) = true := by rw [bneN]; simpa using hA
      (repeat' (first|refine Run.ct rfl ?_|((first|refine Run.reg mixed ?_|refine Run.condM ?_|(refine Run.retP g_scope_checker_alts hseen.le ?_)|refine XCall.det (hctr) ?_|(refine xo_gs rfl (fun h => ?_) (fun h => ?_) <;> try (cases h; done))) <;> try simp -implicitDefEqProofs only [lt_t hlt, he, hd, hcc, List.length_map, encs_len, hA', go_sem, Nat.reduceEqDiff, Nat.reduceBEq, Nat.reduceAdd, Nat.reduceLeDiff, reduceIte, reduceCtorEq])|(refine ⟨fun h => ?_, fun h => ?_⟩ <;> first|(cases h; done)|try simp only [h])|fail))
      rw [herr 5 (by rw [hall]; rfl)]
    rw [if_neg hA] at hall hsn
    have hA' : ((vs.length : Int) != (cc.args.length : Int)) = false := by rw [bneN]; simpa using hA
    have hrep := repeated_ok vs τ
    cases hB : twiceB vs with
    | true =>
      rw [hB] at hrep hall
      rw [if_pos rfl] at hall
      (repeat' (first|refine Run.ct rfl ?_|((first|refine Run.reg mixed ?_|refine Run.condM ?_|(refine Run.retP g_scope_checker_alts hseen.le ?_)|refine XCall.det (hctr) ?_|refine XCall.det (hrep) ?_|(refine xo_gs rfl (fun h => ?_) (fun h => ?_) <;> try (cases h; done))) <;> try simp -implicitDefEqProofs only [lt_t hlt, he, hd, hcc, List.length_map, encs_len, hA', go_sem, Nat.reduceEqDiff, Nat.reduceBEq, Nat.reduceAdd, Nat.reduceLeDiff, reduceIte, reduceCtorEq])|(refine ⟨fun h => ?_, fun h => ?_⟩ <;> first|(cases h; done)|try simp only [h])|fail))
      rw [herr 4 (by rw [hall]; rfl)]
    | false =>
    rw [hB] at hrep hsn
    rw [if_neg (by simp)] at hsn
    simp only [altsGo, Except.map] at hsn
    rw [show xs ++ [x] = xs ++ [(x.1, x.2)] from rfl] at hsn
    have hgo : ∀ (sv' : AV) (τ' : Heap), SeenS dt σ (xs ++ [(x.1, x.2)]) sv' τ' → _ := fun sv' τ' h => ih (i + 1, xs ++ [(x.1, x.2)], sv', τ') ⟨by simp only; omega, by simp [hlx], hsn, h⟩ (by simp only; omega)
    simp only at hgo
    have hx2 : ((x.2 : Int) < ((d.cons.length : Nat) : Int)) = True := by simp only [eq_iff_iff, iff_true]; omega
    rcases hseen with ⟨rfl, rfl, rfl⟩ | ⟨hne, k, e, hk, rfl, rfl⟩
    · -- the first alternative
      have h0 : ((i : Int) == 0) = true := by
        simp only [List.length_nil] at hlx; subst hlx; rfl
      have hself : ((x.1 : Int) != (x.1 : Int)) = false := by simp
      have hget := bools_get (l := List.replicate d.cons.length false) (k := x.2) (x := false) (by simp [hkn])
      have w1 := bools_wr (l := List.replicate d.cons.length false) (k := x.2) true (by simpa using hkn)
      simp only [wr, List.length_cons, List.length_nil, Nat.zero_add] at w1
      have d1 : (x.2 + (0 + 1) ≤ (bools (List.replicate d.cons.length false)).length) = True := by rw [bools_len, List.length_replicate]; simp; omega
      have hlast : ∀ k e, τ.blk k = none → SeenS dt τ ([] ++ [(x.1, x.2)]) (.ms k d.cons.length 1 e) (τ.setBlk k (bools ((List.replicate d.cons.length false).set x.2 true))) := fun k e hk => by
        refine .inr ⟨by simp, k, e, hk, by rw [show fstD ([] ++ [(x.1, x.2)]) = x.1 from rfl, hn], ?_⟩
        rw [show fstD ([] ++ [(x.1, x.2)]) = x.1 from rfl, hn, ← flg_nil x.1, flg_set hkn]
      have e1 : exB ([] ++ [(x.1, x.2)]) = true := by simp [exB]
      rw [e1, show fstD ([] ++ [(x.1, x.2)]) = x.1 from rfl] at hgo
      clear hall hsn ih herr
      (repeat' (first|refine Run.ct rfl ?_|((first|refine Run.reg mixed ?_|refine Run.condM ?_|(refine XMsl.mk d.cons.length (by omega) (by omega) (fun k hk => ?_))|refine XCall.det (hctr) ?_|refine XCall.det (hrep) ?_|(refine xo_gs rfl (fun h => ?_) (fun h => ?_) <;> try (cases h; done))) <;> try simp -implicitDefEqProofs only [lt_t hlt, he, hd, hcc, hw1, List.length_map, encs_len, hA', h0, hself, hx2, hget, w1, d1, Nat.mul_one, bools_rep, exB_nil, go_sem, Nat.reduceEqDiff, Nat.reduceBEq, Nat.reduceAdd, Nat.reduceLeDiff, reduceIte, reduceCtorEq])|(refine ⟨fun h => ?_, fun h => ?_⟩ <;> first|(cases h; done)|try simp only [h])|fail))
      exact hgo _ _ (hlast _ _ (by assumption))
    · have h0 : ((i : Int) == 0) = false := by
        have := List.length_pos_iff.2 hne
        simp only [beq_eq_false_iff_ne, ne_eq]; omega
      have hex := exB_snoc hne x.1 x.2
      rw [fstD_app hne, hex] at hgo
      have hsame : (x.1 ≠ fstD xs ∨ (fstD xs, x.2) ∈ xs) → SeenS dt σ (xs ++ [(x.1, x.2)]) (.ms k (nCons dt (fstD xs)) 1 e) (σ.setBlk k (bools (flg xs (fstD xs) (nCons dt (fstD xs))))) := fun h => by
        refine .inr ⟨by simp, k, e, hk, by rw [fstD_app hne], ?_⟩
        rw [fstD_app hne, flg_same h]
      clear hall hsn ih herr
      by_cases hf : x.1 = fstD xs
      · have hself : ((x.1 : Int) != (fstD xs : Int)) = false := by simp [hf]
        have hself' : (x.1 != fstD xs) = false := by simpa using hf
        have hnf : nCons dt (fstD xs) = d.cons.length := by rw [← hf]; exact hn
        rw [hnf] at hsame hctr hrep ⊢
        have hget := bools_get (flg_get xs (f := fstD xs) hkn)
        cases hfl : xs.contains (fstD xs, x.2) with
        | true =>
          rw [hfl] at hget
          rw [hself', hfl, Bool.or_true, Bool.not_true, Bool.and_false] at hgo
          (repeat' (first|refine Run.ct rfl ?_|((first|refine Run.reg mixed ?_|refine Run.condM ?_|refine XCall.det (hctr) ?_|refine XCall.det (hrep) ?_|(refine xo_gs rfl (fun h => ?_) (fun h => ?_) <;> try (cases h; done))) <;> try simp -implicitDefEqProofs only [lt_t hlt, he, hd, hcc, hw1, List.length_map, encs_len, hA', h0, hself, hx2, hget, Nat.mul_one, go_sem, Nat.reduceEqDiff, Nat.reduceBEq, Nat.reduceAdd, Nat.reduceLeDiff, reduceIte, reduceCtorEq])|(refine ⟨fun h => ?_, fun h => ?_⟩ <;> first|(cases h; done)|try simp only [h])|fail))
          exact hgo _ _ (hsame (.inr (List.contains_iff_mem.1 hfl)))
        | false =>
          rw [hfl] at hget
          rw [hself', hfl, Bool.or_self, Bool.not_false, Bool.and_true] at hgo
          have w1 := bools_wr (l := flg xs (fstD xs) d.cons.length) (k := x.2) true (by rw [flg_len]; exact hkn)
          simp only [wr, List.length_cons, List.length_nil, Nat.zero_add] at w1
          have d1 : (x.2 + (0 + 1) ≤ (bools (flg xs (fstD xs) d.cons.length)).length) = True := by rw [bools_len, flg_len]; simp; omega
          (repeat' (first|refine Run.ct rfl ?_|((first|refine Run.reg mixed ?_|refine Run.condM ?_|refine XCall.det (hctr) ?_|refine XCall.det (hrep) ?_|(refine xo_gs rfl (fun h => ?_) (fun h => ?_) <;> try (cases h; done))) <;> try simp -implicitDefEqProofs only [lt_t hlt, he, hd, hcc, hw1, List.length_map, encs_len, hA', h0, hself, hx2, hget, w1, d1, Nat.mul_one, go_sem, Nat.reduceEqDiff, Nat.reduceBEq, Nat.reduceAdd, Nat.reduceLeDiff, reduceIte, reduceCtorEq])|(refine ⟨fun h => ?_, fun h => ?_⟩ <;> first|(cases h; done)|try simp only [h])|fail))
          refine hgo _ _ (.inr ⟨by simp, k, e, hk, by rw [fstD_app hne, hnf], ?_⟩)
          rw [fstD_app hne, hnf, flg_set hkn, ← hf]
      · have hself : ((x.1 : Int) != (fstD xs : Int)) = true := by simp only [bne_iff_ne, ne_eq]; omega
        have hself' : (x.1 != fstD xs) = true := by simpa using hf
        rw [hself', Bool.true_or, Bool.not_true, Bool.and_false] at hgo
        (repeat' (first|refine Run.ct rfl ?_|((first|refine Run.reg mixed ?_|refine Run.condM ?_|refine XCall.det (hctr) ?_|refine XCall.det (hrep) ?_|(refine xo_gs rfl (fun h => ?_) (fun h => ?_) <;> try (cases h; done))) <;> try simp -implicitDefEqProofs only [lt_t hlt, he, hd, hcc, hw1, List.length_map, encs_len, hA', h0, hself, Nat.mul_one, go_sem, Nat.reduceEqDiff, Nat.reduceBEq, Nat.reduceAdd, Nat.reduceLeDiff, reduceIte, reduceCtorEq])|(refine ⟨fun h => ?_, fun h => ?_⟩ <;> first|(cases h; done)|try simp only [h])|fail))
        exact hgo _ _ (hsame (.inl hf))
  · rw [List.take_of_length_le (by omega)] at hok
    have hres : altsP dt al = if exactB dt xs then 0 else 7 := by rw [altsP, hok]
    rcases hseen with ⟨rfl, rfl, rfl⟩ | ⟨hne, k, e, hk, rfl, rfl⟩
    · (repeat' (first|refine Run.ct rfl ?_|((first|refine Run.reg mixed ?_|refine Run.condM ?_|refine Run.retP g_scope_checker_alts (Heap.le_refl _) ?_|refine XCall.det (Contains_nil_ok false _) ?_|(refine xo_gs rfl (fun h => ?_) (fun h => ?_) <;> try (cases h; done))) <;> try simp -implicitDefEqProofs only [lt_f hlt, show exB [] = true from rfl, go_sem, Nat.reduceEqDiff, Nat.reduceBEq, Nat.reduceAdd, Nat.reduceLeDiff, reduceIte, reduceCtorEq])|(refine ⟨fun h => ?_, fun h => ?_⟩ <;> first|(cases h; done)|try simp only [h])|fail))
      rw [hres]; rfl
    · have hbd := altsGo_bd hok
      have hend := exact_end (dt := dt) hne (fun x hx h => by rw [← h]; exact hbd x hx)
      have hnl : nCons dt (fstD xs) ≤ 1000000 := by
        unfold nCons; split
        · rename_i d hd; exact hdt d (List.mem_of_getElem? hd)
        · omega
      have hcb := Contains_bool_ok (flg xs (fstD xs) (nCons dt (fstD xs))) false k e (σ.setBlk k (bools (flg xs (fstD xs) (nCons dt (fstD xs))))) (by simp only [setBlk_get, if_true]) (by rw [flg_len]; omega)
      rw [flg_len] at hcb
      cases hB : exB xs with
      | false =>
        rw [hB, Bool.false_and] at hend
        (repeat' (first|refine Run.ct rfl ?_|((first|refine Run.reg mixed ?_|refine Run.condM ?_|(refine Run.retP g_scope_checker_alts (le_setBlk hk) ?_)|(refine xo_gs rfl (fun h => ?_) (fun h => ?_) <;> try (cases h; done))) <;> try simp -implicitDefEqProofs only [lt_f hlt, hB, go_sem, Nat.reduceEqDiff, Nat.reduceBEq, Nat.reduceAdd, Nat.reduceLeDiff, reduceIte, reduceCtorEq])|(refine ⟨fun h => ?_, fun h => ?_⟩ <;> first|(cases h; done)|try simp only [h])|fail))
        rw [hres, hend]; rfl
      | true =>
        rw [hB, Bool.true_and] at hend
        cases hC : (flg xs (fstD xs) (nCons dt (fstD xs))).any (fun x => false == x) with
        | true =>
          rw [hC] at hcb hend
          (repeat' (first|refine Run.ct rfl ?_|((first|refine Run.reg mixed ?_|refine Run.condM ?_|(refine Run.retP g_scope_checker_alts (le_setBlk hk) ?_)|refine XCall.det (hcb) ?_|(refine xo_gs rfl (fun h => ?_) (fun h => ?_) <;> try (cases h; done))) <;> try simp -implicitDefEqProofs only [lt_f hlt, hB, go_sem, Nat.reduceEqDiff, Nat.reduceBEq, Nat.reduceAdd, Nat.reduceLeDiff, reduceIte, reduceCtorEq])|(refine ⟨fun h => ?_, fun h => ?_⟩ <;> first|(cases h; done)|try simp only [h])|fail))
          rw [hres, hend]; rfl
        | false =>
          rw [hC] at hcb hend
          (repeat' (first|refine Run.ct rfl ?_|((first|refine Run.reg mixed ?_|refine Run.condM ?_|(refine Run.retP g_scope_checker_alts (le_setBlk hk) ?_)|refine XCall.det (hcb) ?_|(refine xo_gs rfl (fun h => ?_) (fun h => ?_) <;> try (cases h; done))) <;> try simp -implicitDefEqProofs only [lt_f hlt, hB, go_sem, Nat.reduceEqDiff, Nat.reduceBEq, Nat.reduceAdd, Nat.reduceLeDiff, reduceIte, reduceCtorEq])|(refine ⟨fun h => ?_, fun h => ?_⟩ <;> first|(cases h; done)|try simp only [h])|fail))
          rw [hres, hend]; rfl
end Go.Ab

namespace Go.Ab
open Go.Proofs
def goodE (e : Ex) : Prop := (e.op = 4 → e.name ≠ []) ∧ (e.op = 12 → ∃ h t, e.kids = h :: t ∧ (h.op = 4 → h.name ≠ [])) ∧ e.alts.length ≤ 1000000 ∧ e.kids.length ≤ 1000000
theorem idxI_lt (o : Option Nat) : decide (idxI o < 0) = o.isNone := by
  cases o with
  | none => rfl
  | some i => exact decide_eq_false (by simp only [idxI]; omega)
theorem idxP_spec {s : Str} : ∀ {l : List Str} {i : Nat}, idxP l s = some i → l[i]? = some s
  | [], i, h => by simp [idxP] at h
  | x :: l, i, h => by
    rw [idxP] at h
    split at h
    · rename_i hx
      cases h
      simpa using hx
    · simp only [Option.map_eq_some_iff] at h
      obtain ⟨k, hk, rfl⟩ := h
      simpa using idxP_spec hk
theorem fnames_at {fs : List FE} {s : Str} {i : Nat} (h : idxP (fnames fs) s = some i) : ∃ g, fs[i]? = some g ∧ g.name = s := by
  have := idxP_spec h
  rw [fnames, List.getElem?_map, Option.map_eq_some_iff] at this
  exact this
theorem le00 : ((0 : Int) ≤ 0) = True := by simp
theorem visP_mk (fs : List FE) (dt : List Dat) (o : Int) (n : Str) (u : Int) (ns : List Str) (ks : List Ex) (al : List Al) (sc : List Str) : visP fs dt (.mk o n u ns ks al) sc =
    if o = 4 then (if !sc.contains n && (idxP (fnames fs) n).isNone then 3 else 0)
    else if o = 6 then
      match ctrP dt n with
      | none => 3
      | some x => if ks.length ≠ arity dt x then 5 else 0
    else if o = 8 ∨ o = 11 then (if twiceB ns then 4 else 0)
    else if o = 10 then altsP dt al
    else if o = 12 then
      match ks.head? with
      | none => 0
      | some h => if h.op = 4 && !sc.contains h.name then
          (match idxP (fnames fs) h.name with
          | none => 0
          | some f => match fs[f]? with
            | some g => if g.params.length + 1 ≠ ks.length then 5 else 0
            | none => 0) else 0
    else 0 := rfl
set_option maxRecDepth 4000 in
set_option maxHeartbeats 8000000 in
theorem visit_ok (ds : List DE) (fs : List FE) (dt : List Dat) (hdt : DtOk dt) (e : Ex) (sc : List Str) (hg : goodE e) (σ : Heap) :
    ACalls Try.prog 29 [.agg [.d (.sl (ds.map DE.enc)), .d (.sl (fs.map FE.enc)), .d (.sl (dt.map Dat.enc))], exA e, .d (bdL sc)] σ (fun v σ' => v = .d (.int .i64 (visP fs dt e sc)) ∧ σ' = σ) := by
  obtain ⟨o, n, u, ns, ks, al⟩ := e
  obtain ⟨hg4, hg12, hgal, hgk⟩ := hg
  simp only [Ex.op, Ex.name, Ex.kids, Ex.alts] at hg4 hg12 hgal hgk
  refine i_scope_checker_visit (by simp) ?_
  rw [argF_3, exA, Ex.enc_mk]
  have hfun := fun s => function_ok ⟨ds, fs⟩ s σ
  simp only [pgA, Pg.enc, List.map_cons, List.map_nil] at hfun
  have hctr := Constructor_ok dt hdt n σ
  rw [dsA] at hctr
  by_cases h4 : o = 4
  · subst h4
    have hv : visP fs dt (.mk 4 n u ns ks al) sc = if !sc.contains n && (idxP (fnames fs) n).isNone then 3 else 0 := by
      rw [visP_mk, if_pos rfl]
    have hh := hasL_ok sc n (hg4 rfl) σ
    have hf := hfun n
    cases h1 : sc.contains n with
    | true =>
      rw [h1] at hh
      (repeat' (first|refine Run.ct rfl ?_|((first|refine Run.reg mixed ?_|refine Run.condM ?_|refine Run.retP g_scope_checker_visit (Heap.le_refl _) ?_|refine XCall.det (hh) ?_|(refine xo_gs rfl (fun h => ?_) (fun h => ?_) <;> try (cases h; done))) <;> try simp -implicitDefEqProofs only [Int.reduceBEq, go_sem, Nat.reduceEqDiff, Nat.reduceBEq, Nat.reduceAdd, Nat.reduceLeDiff, reduceIte, reduceCtorEq])|(refine ⟨fun h => ?_, fun h => ?_⟩ <;> first|(cases h; done)|try simp only [h])|fail))
      rw [hv, h1]; rfl
    | false =>
      rw [h1] at hh
      cases h2 : (idxP (fnames fs) n).isNone with
      | true =>
        (repeat' (first|refine Run.ct rfl ?_|((first|refine Run.reg mixed ?_|refine Run.condM ?_|refine Run.retP g_scope_checker_visit (Heap.le_refl _) ?_|refine XCall.det (hh) ?_|refine XCall.det (hf) ?_|(refine xo_gs rfl (fun h => ?_) (fun h => ?_) <;> try (cases h; done))) <;> try simp -implicitDefEqProofs only [Int.reduceBEq, idxI_lt, h2, go_sem, Nat.reduceEqDiff, Nat.reduceBEq, Nat.reduceAdd, Nat.reduceLeDiff, reduceIte, reduceCtorEq])|(refine ⟨fun h => ?_, fun h => ?_⟩ <;> first|(cases h; done)|try simp only [h])|fail))
        rw [hv, h1, h2]; rfl
      | false =>
        (repeat' (first|refine Run.ct rfl ?_|((first|refine Run.reg mixed ?_|refine Run.condM ?_|refine Run.retP g_scope_checker_visit (Heap.le_refl _) ?_|refine XCall.det (hh) ?_|refine XCall.det (hf) ?_|(refine xo_gs rfl (fun h => ?_) (fun h => ?_) <;> try (cases h; done))) <;> try simp -implicitDefEqProofs only [Int.reduceBEq, idxI_lt, h2, go_sem, Nat.reduceEqDiff, Nat.reduceBEq, Nat.reduceAdd, Nat.reduceLeDiff, reduceIte, reduceCtorEq])|(refine ⟨fun h => ?_, fun h => ?_⟩ <;> first|(cases h; done)|try simp only [h])|fail))
        rw [hv, h1, h2]; rfl
  by_cases h6 : o = 6
  · subst h6
    have hv : visP fs dt (.mk 6 n u ns ks al) sc = match ctrP dt n with | none => 3 | some x => if ks.length ≠ arity dt x then 5 else 0 := by
      rw [visP_mk, if_neg (show ¬ (6 : Int) = 4 by decide), if_pos rfl]
      all_goals rfl
    cases hc : ctrP dt n with
    | none =>
      rw [hc] at hctr hv
      simp only [ctrA] at hctr
      (repeat' (first|refine Run.ct rfl ?_|((first|refine Run.reg mixed ?_|refine Run.condM ?_|refine Run.retP g_scope_checker_visit (Heap.le_refl _) ?_|refine XCall.det (hctr) ?_|(refine xo_gs rfl (fun h => ?_) (fun h => ?_) <;> try (cases h; done))) <;> try simp -implicitDefEqProofs only [Int.reduceBEq, go_sem, Nat.reduceEqDiff, Nat.reduceBEq, Nat.reduceAdd, Nat.reduceLeDiff, reduceIte, reduceCtorEq])|(refine ⟨fun h => ?_, fun h => ?_⟩ <;> first|(cases h; done)|try simp only [h])|fail))
      rw [hv]
    | some x =>
      rw [hc] at hctr hv
      simp only [ctrA] at hctr
      obtain ⟨d, cc, h1, h2, _⟩ := ctrP_spec hc
      have har := ctrP_arity (s := []) h1 h2
      have hd := dats_at h1
      have hcc := cons_at h2
      have hb := bneN ks.length cc.args.length
      cases hne : (ks.length != cc.args.length) with
      | true =>
        rw [hne] at hb
        (repeat' (first|refine Run.ct rfl ?_|((first|refine Run.reg mixed ?_|refine Run.condM ?_|refine Run.retP g_scope_checker_visit (Heap.le_refl _) ?_|refine XCall.det (hctr) ?_|(refine xo_gs rfl (fun h => ?_) (fun h => ?_) <;> try (cases h; done))) <;> try simp -implicitDefEqProofs only [Int.reduceBEq, hd, hcc, List.length_map, encs_len, hb, go_sem, Nat.reduceEqDiff, Nat.reduceBEq, Nat.reduceAdd, Nat.reduceLeDiff, reduceIte, reduceCtorEq])|(refine ⟨fun h => ?_, fun h => ?_⟩ <;> first|(cases h; done)|try simp only [h])|fail))
        rw [hv]; simp only
        rw [if_pos (by rw [har]; simpa using hne)]
      | false =>
        rw [hne] at hb
        (repeat' (first|refine Run.ct rfl ?_|((first|refine Run.reg mixed ?_|refine Run.condM ?_|refine Run.retP g_scope_checker_visit (Heap.le_refl _) ?_|refine XCall.det (hctr) ?_|(refine xo_gs rfl (fun h => ?_) (fun h => ?_) <;> try (cases h; done))) <;> try simp -implicitDefEqProofs only [Int.reduceBEq, hd, hcc, List.length_map, encs_len, hb, go_sem, Nat.reduceEqDiff, Nat.reduceBEq, Nat.reduceAdd, Nat.reduceLeDiff, reduceIte, reduceCtorEq])|(refine ⟨fun h => ?_, fun h => ?_⟩ <;> first|(cases h; done)|try simp only [h])|fail))
        rw [hv]; simp only
        rw [if_neg (by rw [har]; simpa using hne)]
  by_cases h8 : o = 8 ∨ o = 11
  · have hv : visP fs dt (.mk o n u ns ks al) sc = if twiceB ns then 4 else 0 := by
      rw [visP_mk, if_neg (show ¬ o = 4 from h4), if_neg (show ¬ o = 6 from h6), if_pos (show o = 8 ∨ o = 11 from h8)]
      all_goals rfl
    have hrep := repeated_ok ns σ
    cases hB : twiceB ns with
    | true =>
      rw [hB] at hrep hv
      rcases h8 with rfl | rfl
      all_goals (repeat' (first|refine Run.ct rfl ?_|((first|refine Run.reg mixed ?_|refine Run.condM ?_|refine Run.retP g_scope_checker_visit (Heap.le_refl _) ?_|refine XCall.det (hrep) ?_|(refine xo_gs rfl (fun h => ?_) (fun h => ?_) <;> try (cases h; done))) <;> try simp -implicitDefEqProofs only [Int.reduceBEq, go_sem, Nat.reduceEqDiff, Nat.reduceBEq, Nat.reduceAdd, Nat.reduceLeDiff, reduceIte, reduceCtorEq])|(refine ⟨fun h => ?_, fun h => ?_⟩ <;> first|(cases h; done)|try simp only [h])|fail))
      all_goals (rw [hv]; rfl)
    | false =>
      rw [hB] at hrep hv
      rcases h8 with rfl | rfl
      all_goals (repeat' (first|refine Run.ct rfl ?_|((first|refine Run.reg mixed ?_|refine Run.condM ?_|refine Run.retP g_scope_checker_visit (Heap.le_refl _) ?_|refine XCall.det (hrep) ?_|(refine xo_gs rfl (fun h => ?_) (fun h => ?_) <;> try (cases h; done))) <;> try simp -implicitDefEqProofs only [Int.reduceBEq, go_sem, Nat.reduceEqDiff, Nat.reduceBEq, Nat.reduceAdd, Nat.reduceLeDiff, reduceIte, reduceCtorEq])|(refine ⟨fun h => ?_, fun h => ?_⟩ <;> first|(cases h; done)|try simp only [h])|fail))
      all_goals (rw [hv]; rfl)
  by_cases h10 : o = 10
  · subst h10
    have hv : visP fs dt (.mk 10 n u ns ks al) sc = altsP dt al := by
      rw [visP_mk, if_neg (show ¬ (10 : Int) = 4 by decide), if_neg (show ¬ (10 : Int) = 6 by decide), if_neg (show ¬ ((10 : Int) = 8 ∨ (10 : Int) = 11) by decide), if_pos rfl]
      all_goals rfl
    (repeat' (first|refine Run.ct rfl ?_|((first|refine Run.reg mixed ?_|refine Run.condM ?_|refine Run.retP g_scope_checker_visit (Heap.le_refl _) ?_|refine XCall.det (alts_ok ds fs dt hdt al σ hgal) ?_|(refine xo_gs rfl (fun h => ?_) (fun h => ?_) <;> try (cases h; done))) <;> try simp -implicitDefEqProofs only [Int.reduceBEq, go_sem, Nat.reduceEqDiff, Nat.reduceBEq, Nat.reduceAdd, Nat.reduceLeDiff, reduceIte, reduceCtorEq])|(refine ⟨fun h => ?_, fun h => ?_⟩ <;> first|(cases h; done)|try simp only [h])|fail))
    rw [hv]
  by_cases h12 : o = 12
  · subst h12
    obtain ⟨h, t, rfl, hh4⟩ := hg12 rfl
    have hlen : (h :: t).length = t.length + 1 := rfl
    obtain ⟨xo, xn, xu, xs, xk, xa⟩ := h
    have hv : visP fs dt (.mk 12 n u ns (.mk xo xn xu xs xk xa :: t) al) sc = if decide (xo = 4) && !sc.contains xn then (match idxP (fnames fs) xn with | none => 0 | some f => match fs[f]? with | some g => if g.params.length + 1 ≠ t.length + 1 then 5 else 0 | none => 0) else 0 := by
      rw [visP_mk, if_neg (show ¬ (12 : Int) = 4 by decide), if_neg (show ¬ (12 : Int) = 6 by decide), if_neg (show ¬ ((12 : Int) = 8 ∨ (12 : Int) = 11) by decide), if_neg (show ¬ (12 : Int) = 10 by decide), if_pos rfl]
      all_goals rfl
    simp only [Ex.op, Ex.name] at hh4
    generalize hw : visP fs dt (.mk 12 n u ns (.mk xo xn xu xs xk xa :: t) al) sc = w at hv ⊢
    clear hw
    have hf := hfun xn
    by_cases hx4 : xo = 4
    · subst hx4
      have hh := hasL_ok sc xn (hh4 rfl) σ
      cases h1 : sc.contains xn with
      | true =>
        rw [h1] at hh hv
        (repeat' (first|refine Run.ct rfl ?_|((first|refine Run.reg mixed ?_|refine Run.condM ?_|refine Run.retP g_scope_checker_visit (Heap.le_refl _) ?_|refine XCall.det (hh) ?_|(refine xo_gs rfl (fun h => ?_) (fun h => ?_) <;> try (cases h; done))) <;> try simp -implicitDefEqProofs only [Int.reduceBEq, List.map_cons, Ex.enc_mk, Int.reduceToNat, le00, go_sem, Nat.reduceEqDiff, Nat.reduceBEq, Nat.reduceAdd, Nat.reduceLeDiff, reduceIte, reduceCtorEq])|(refine ⟨fun h => ?_, fun h => ?_⟩ <;> first|(cases h; done)|try simp only [h])|fail))
        rw [hv]; rfl
      | false =>
        rw [h1] at hh hv
        cases hi : idxP (fnames fs) xn with
        | none =>
          rw [hi] at hf hv
          simp only [idxI] at hf
          have hneg : decide ((0 : Int) ≤ -1) = false := by decide
          (repeat' (first|refine Run.ct rfl ?_|((first|refine Run.reg mixed ?_|refine Run.condM ?_|refine Run.retP g_scope_checker_visit (Heap.le_refl _) ?_|refine XCall.det (hh) ?_|refine XCall.det (hf) ?_|(refine xo_gs rfl (fun h => ?_) (fun h => ?_) <;> try (cases h; done))) <;> try simp -implicitDefEqProofs only [Int.reduceBEq, List.map_cons, Ex.enc_mk, Int.reduceToNat, le00, hneg, go_sem, Nat.reduceEqDiff, Nat.reduceBEq, Nat.reduceAdd, Nat.reduceLeDiff, reduceIte, reduceCtorEq])|(refine ⟨fun h => ?_, fun h => ?_⟩ <;> first|(cases h; done)|try simp only [h])|fail))
          rw [hv]; rfl
        | some f =>
          rw [hi] at hf hv
          simp only [idxI] at hf
          obtain ⟨g, hgf, _⟩ := fnames_at hi
          have hge := row_at (enc := FE.enc) hgf
          simp only at hv
          rw [hgf] at hv
          obtain ⟨gn, gp, go, gn2, gu, gns, gk, ga⟩ := g
          simp only [FE.enc, Ex.enc_mk] at hge
          have hpos : decide ((0 : Int) ≤ (f : Int)) = true := by simp
          have hsub : IntKind.i64.wrap (((t.length + 1 : Nat) : Int) - 1) = (t.length : Int) := wrap_sub1' (by simp only [List.length_cons] at hgk; omega)
          have hb := bneN t.length gp.length
          simp only [Bool.not_false, Bool.and_true, decide_true, if_true] at hv
          cases hne : (t.length != gp.length) with
          | true =>
            rw [hne] at hb
            (repeat' (first|refine Run.ct rfl ?_|((first|refine Run.reg mixed ?_|refine Run.condM ?_|refine Run.retP g_scope_checker_visit (Heap.le_refl _) ?_|refine XCall.det (hh) ?_|refine XCall.det (hf) ?_|(refine xo_gs rfl (fun h => ?_) (fun h => ?_) <;> try (cases h; done))) <;> try simp -implicitDefEqProofs only [Int.reduceBEq, List.map_cons, Ex.enc_mk, Int.reduceToNat, le00, hpos, hge, List.length_cons, List.length_map, hsub, hb, go_sem, Nat.reduceEqDiff, Nat.reduceBEq, Nat.reduceAdd, Nat.reduceLeDiff, reduceIte, reduceCtorEq])|(refine ⟨fun h => ?_, fun h => ?_⟩ <;> first|(cases h; done)|try simp only [h])|fail))
            rw [hv, if_pos (by simp only [bne_iff_ne, ne_eq] at hne; omega)]
          | false =>
            rw [hne] at hb
            (repeat' (first|refine Run.ct rfl ?_|((first|refine Run.reg mixed ?_|refine Run.condM ?_|refine Run.retP g_scope_checker_visit (Heap.le_refl _) ?_|refine XCall.det (hh) ?_|refine XCall.det (hf) ?_|(refine xo_gs rfl (fun h => ?_) (fun h => ?_) <;> try (cases h; done))) <;> try simp -implicitDefEqProofs only [Int.reduceBEq, List.map_cons, Ex.enc_mk, Int.reduceToNat, le00, hpos, hge, List.length_cons, List.length_map, hsub, hb, go_sem, Nat.reduceEqDiff, Nat.reduceBEq, Nat.reduceAdd, Nat.reduceLeDiff, reduceIte, reduceCtorEq])|(refine ⟨fun h => ?_, fun h => ?_⟩ <;> first|(cases h; done)|try simp only [h])|fail))
            rw [hv, if_neg (by simp only [bne_eq_false_iff_eq] at hne; omega)]
    · have hxf := beqF hx4
      (repeat' (first|refine Run.ct rfl ?_|((first|refine Run.reg mixed ?_|refine Run.condM ?_|refine Run.retP g_scope_checker_visit (Heap.le_refl _) ?_|(refine xo_gs rfl (fun h => ?_) (fun h => ?_) <;> try (cases h; done))) <;> try simp -implicitDefEqProofs only [Int.reduceBEq, List.map_cons, Ex.enc_mk, Int.reduceToNat, le00, hxf, go_sem, Nat.reduceEqDiff, Nat.reduceBEq, Nat.reduceAdd, Nat.reduceLeDiff, reduceIte, reduceCtorEq])|(refine ⟨fun h => ?_, fun h => ?_⟩ <;> first|(cases h; done)|try simp only [h])|fail))
      rw [hv, decide_eq_false hx4]; rfl
  · have hv : visP fs dt (.mk o n u ns ks al) sc = 0 := by
      rw [visP_mk, if_neg (show ¬ o = 4 from h4), if_neg (show ¬ o = 6 from h6), if_neg (show ¬ (o = 8 ∨ o = 11) from h8), if_neg (show ¬ o = 10 from h10), if_neg (show ¬ o = 12 from h12)]
    simp only [not_or] at h8
    (repeat' (first|refine Run.ct rfl ?_|((first|refine Run.reg mixed ?_|refine Run.condM ?_|refine Run.retP g_scope_checker_visit (Heap.le_refl _) ?_|(refine xo_gs rfl (fun h => ?_) (fun h => ?_) <;> try (cases h; done))) <;> try simp -implicitDefEqProofs only [beqF h4, beqF h6, beqF h8.1, beqF h8.2, beqF h10, beqF h12, go_sem, Nat.reduceEqDiff, Nat.reduceBEq, Nat.reduceAdd, Nat.reduceLeDiff, reduceIte, reduceCtorEq])|(refine ⟨fun h => ?_, fun h => ?_⟩ <;> first|(cases h; done)|try simp only [h])|fail))
    rw [hv]
end Go.Ab
