/- Scope: the flags of a body. Scope: Calls. Conditions: none. -/
import Derived.Test.YtlckhmkeihbhmaaXVo
set_option linter.unusedSimpArgs false
namespace Go.Ab
open Go.Proofs
theorem setBlk_comm (σ : Heap) {i j : Nat} (h : i ≠ j) (a b c : List AV) : ((σ.setBlk i a).setBlk j b).setBlk i c = (σ.setBlk i c).setBlk j b := by
  unfold Heap.setBlk
  simp only [Heap.mk.injEq, and_true]
  funext k
  by_cases h1 : k = i
  · subst h1; simp [h]
  · simp [h1]
def endF (fs : List FE) : List (Ex × List Str) → List Bool → List Bool
  | [], fl => fl
  | x :: l, fl => endF fs l (flagE fs x fl)
theorem endF_len (fs : List FE) : ∀ (l : List (Ex × List Str)) (fl : List Bool), (endF fs l fl).length = fl.length
  | [], fl => rfl
  | x :: l, fl => by rw [endF, endF_len fs l, flagE_len]
theorem flagE_get (fs : List FE) (x : Ex × List Str) (fl : List Bool) (g : Nat) : (flagE fs x fl)[g]? = fl[g]?.map (· || namesF fs g x) := by
  unfold flagE namesF
  by_cases h : x.1.op = 4
  · cases hc : x.2.contains x.1.name with
    | true =>
      simp [h, hc]
    | false =>
      simp only [h, hc, decide_true, Bool.not_false, Bool.and_true, if_true, beq_self_eq_true, Bool.true_and]
      cases hi : idxP (fnames fs) x.1.name with
      | none => simp
      | some k =>
        by_cases hk : k = g
        · subst hk
          rw [List.getElem?_set]
          by_cases hl : k < fl.length
          · simp [hl]
          · simp [hl]
        · rw [List.getElem?_set, if_neg hk]
          have hkg : (k == g) = false := by simpa using hk
          simp [hkg]
  · have hb := beqF h
    simp only [h, decide_false, Bool.false_and, Bool.false_eq_true, if_false, hb, Bool.or_false]
    simp
theorem endF_get (fs : List FE) (g : Nat) : ∀ (l : List (Ex × List Str)) (fl : List Bool), (endF fs l fl)[g]? = fl[g]?.map (· || l.any (namesF fs g))
  | [], fl => by simp [endF]
  | x :: l, fl => by
    rw [endF, endF_get fs g l, flagE_get]
    cases fl[g]? with
    | none => rfl
    | some b => simp [Bool.or_assoc]
abbrev FlS (fs : List FE) := { fl : List Bool // fl.length = fs.length }
def visC (fs : List FE) (s : FlS fs) (x : Ex × List Str) : Int × FlS fs := (0, ⟨flagE fs x s.1, by rw [flagE_len]; exact s.2⟩)
theorem runL_visC (fs : List FE) : ∀ (l : List (Ex × List Str)) (s : FlS fs), runL (visC fs) l s = (none, ⟨endF fs l s.1, by rw [endF_len]; exact s.2⟩)
  | [], s => rfl
  | x :: l, s => by
    rw [runL]
    have := runL_visC fs l (visC fs s x).2
    rw [if_pos (show (visC fs s x).1 = 0 from rfl), this]
    rfl
theorem callBody_ok (ds : List DE) (fs : List FE) (f : FE) (hsz : f.body.size ≤ 600) (hfs : fs.length ≤ 24) (jm jf jp eM : Nat) (τ : Heap) (fl : List Bool) (hfl : fl.length = fs.length) (hm : τ.blk jm = some (bools fl)) (hf : τ.blk jf = some [.ms jm fl.length 1 eM])
    (hp : τ.blk jp = some [.d (.sl (ds.map DE.enc)), .d (.sl (fs.map FE.enc))]) (hne1 : jf ≠ jm) (hne2 : jp ≠ jm)
    (hx : ∀ x ∈ preP f.body f.params, (x.1.op = 4 → x.1.name ≠ []) ∧ (x.1.op = 4 → x.2.contains x.1.name = false → (idxP (fnames fs) x.1.name).isSome = true)) :
    ACalls Try.prog 28 [feA f, .fn 31 [] [.gp jf 0, .gp jp 0]] τ
      (fun v σ' => v = .tup [.d (.int .i64 ((f.body.size - 1 : Nat) : Int)), .d (.int .i64 0)] ∧ σ' = τ.setBlk jm (bools (endF fs (preP f.body f.params) fl))) := by
  have hw := walkFun_ok (S := FlS fs) (visC fs) (fun s => τ.setBlk jm (bools s.1)) 31 [] [.gp jf 0, .gp jp 0] (by kernel_rfl) rfl rfl f ⟨fl, hfl⟩ (by omega)
    (fun t j hj => by
      simp only [setBlk_get] at hj ⊢
      split
      · rename_i e; rw [if_pos e] at hj; cases hj
      · rename_i e; rwa [if_neg e] at hj)
    (fun j hj x hxm s n => by
      have hjm : j ≠ jm := fun e => by rw [e, setBlk_get, if_pos rfl] at hj; cases hj
      have hj0 : τ.blk j = none := by rw [setBlk_get, if_neg hjm] at hj; exact hj
      have hjf : jf ≠ j := fun e => by rw [← e, hf] at hj0; cases hj0
      have hjp : jp ≠ j := fun e => by rw [← e, hp] at hj0; cases hj0
      have := Calls_1_ok ds fs x.1 x.2 s.1 s.2 hfs jm jf jp eM (WH (fun s : FlS fs => τ.setBlk jm (bools s.1)) j (.fn 31 [] [.gp jf 0, .gp jp 0]) n s)
        (by simp only [WH, setBlk_get, if_neg (Ne.symm hjm), if_true]) (by rw [WH, setBlk_get, if_neg hjf, setBlk_get, if_neg hne1, hf, hfl, s.2]) (by rw [WH, setBlk_get, if_neg hjp, setBlk_get, if_neg hne2, hp]) (hx x hxm).1 (hx x hxm).2
      refine this.mono (fun v σ' h => ⟨h.1, ?_⟩)
      rw [h.2]
      simp only [WH, visC]
      exact setBlk_comm τ (Ne.symm hjm) _ _ _)
  simp only [setBlk_same hm] at hw
  refine hw.mono (fun v σ' h => ?_)
  rw [runL_visC] at h
  exact h
theorem chkGo_none {fs : List FE} {dt : List Dat} : ∀ (l : List FE) (i : Nat), (chkGo fs dt i l).1 = 0 → ∀ f ∈ l, errP (visP fs dt) (preP f.body f.params) = none
  | [], i, _, f, hf => by simp at hf
  | g :: l, i, h, f, hf => by
    rw [chkGo] at h
    have hF : chkF fs dt i g = none ∧ errP (visP fs dt) (preP g.body g.params) = none := by
      unfold chkF at h ⊢
      split at h
      · rename_i d hd
        exfalso
        split at hd
        · cases hd; simp at h
        · split at hd
          · rename_i k c hk; cases hd; exact errP_ne hk h
          · cases hd
      · rename_i hd
        split at hd
        · cases hd
        · split at hd
          · cases hd
          · rename_i hk; exact ⟨by rename_i h1 _; rw [if_neg h1], hk⟩
    rw [hF.1] at h
    rcases List.mem_cons.1 hf with rfl | hf
    · exact hF.2
    · exact chkGo_none l (i + 1) h f hf
theorem errP_none {vis : Ex → List Str → Int} : ∀ {l : List (Ex × List Str)}, errP vis l = none → ∀ x ∈ l, vis x.1 x.2 = 0
  | [], _, x, hx => by simp at hx
  | y :: l, h, x, hx => by
    rw [errP] at h
    split at h
    · rename_i h0
      rcases List.mem_cons.1 hx with rfl | hx
      · exact h0
      · exact errP_none (by simpa using h) x hx
    · cases h
theorem chkP_facts {p : Pg} (h : (chkP p).1 = 0) : p.funs.length ≤ 24 ∧ ∀ f ∈ p.funs, f.body.size ≤ 600 ∧ ∀ x ∈ preP f.body f.params, (x.1.op = 4 → x.1.name ≠ []) ∧ (x.1.op = 4 → x.2.contains x.1.name = false → (idxP (fnames p.funs) x.1.name).isSome = true) := by
  unfold chkP at h
  cases hd : dataP p with
  | error d => obtain ⟨c, a, b⟩ := d; rw [hd] at h; exact absurd h (dataP_ne hd)
  | ok dt =>
    rw [hd] at h
    simp only at h
    obtain ⟨hv, _⟩ := dataP_facts hd
    obtain ⟨hl, hg⟩ := valid_good hv
    refine ⟨hl, fun f hf => ⟨(hg f hf).1, fun x hx => ⟨((hg f hf).2.2 _ x hx).1, fun h4 hc => ?_⟩⟩⟩
    have h0 := errP_none (chkGo_none _ _ h f hf) x hx
    obtain ⟨⟨o, n, u, ns, ks, al⟩, sc⟩ := x
    simp only [Ex.op, Ex.name] at h4 hc ⊢
    subst h4
    rw [visP_mk, if_pos rfl, hc] at h0
    cases hi : idxP (fnames p.funs) n with
    | none => rw [hi] at h0; simp at h0
    | some k => rfl
end Go.Ab

namespace Go.Ab
open Go.Proofs
def natR (n : Nat) : List DV := [.int .i64 (n : Int)]
def callsA (l : List (List Nat)) : AV := .d (.sl (l.map fun r => [.sl (r.map natR)]))
theorem le_setBt {σ τ : Heap} (h : σ.le τ) {i : Nat} {x : Nat × TypeId} (hb : τ.bt i = none) : σ.le (τ.setBt i x) :=
  ⟨h.blk, h.tok, h.gt, fun k y hk => by
    have := h.bt k y hk
    show (if k = i then some x else τ.bt k) = some y
    rw [if_neg (fun e => by rw [e, hb] at this; cases this)]; exact this⟩
theorem set_self {α : Type} {l : List α} {i : Nat} {x : α} (h : l[i]? = some x) : l.set i x = l := by
  apply List.ext_getElem?
  intro k
  rw [List.getElem?_set]
  split
  · rename_i e; subst e; rw [h, if_pos (List.getElem?_eq_some_iff.1 h).1]
  · rfl
theorem wr1 {α : Type} {l : List α} {i : Nat} (x : α) (h : i < l.length) : List.take i l ++ [x] ++ List.drop (i + 1) l = l.set i x := by
  rw [List.set_eq_take_append_cons_drop, if_pos h]; simp
theorem out_enc {r : FE → List (List DV)} : ∀ {l : List FE} {cells : List AV}, cells.length = l.length → (∀ (k : Nat) (f : FE), l[k]? = some f → ∃ cv, cells[k]? = some cv ∧ SlV cv (r f)) → ∃ ds, dvs cells = some ds ∧ chunk 1 l.length ds = l.map fun f => [DV.sl (r f)]
  | [], [], _, _ => ⟨[], rfl, rfl⟩
  | f :: l, [], h, _ => by simp at h
  | [], c :: cells, h, _ => by simp at h
  | f :: l, c :: cells, h, hk => by
    obtain ⟨cv, h1, h2⟩ := hk 0 f rfl
    simp only [List.getElem?_cons_zero, Option.some.injEq] at h1
    subst h1
    obtain ⟨ds, h3, h4⟩ := out_enc (r := r) (l := l) (cells := cells) (by simpa using h) (fun k g hg => hk (k + 1) g hg)
    have hcv := h2.dv
    exact ⟨.sl (r f) :: ds, by simp [dvs, hcv, h3], by simp [chunk, h4]⟩
structure CS (σ : Heap) (jp jo : Nat) (ds : List DE) (fs : List FE) (cells : List AV) (τ : Heap) : Prop where
  prog : τ.blk jp = some [.d (.sl (ds.map DE.enc)), .d (.sl (fs.map FE.enc))]
  out : τ.blk jo = some cells
  ne : jo ≠ jp
  no : σ.blk jo = none
  np : σ.blk jp = none
  le : σ.le τ
  len : cells.length = fs.length
theorem CS.new {σ τ : Heap} {jp jo : Nat} {ds : List DE} {fs : List FE} {cells : List AV} (h : CS σ jp jo ds fs cells τ) {j : Nat} (hj : τ.blk j = none) (cs : List AV) : CS σ jp jo ds fs cells (τ.setBlk j cs) := by
  have h1 : jp ≠ j := fun e => by rw [← e, h.prog] at hj; cases hj
  have h2 : jo ≠ j := fun e => by rw [← e, h.out] at hj; cases hj
  have h3 : σ.blk j = none := by
    cases hc : σ.blk j with
    | none => rfl
    | some c => rw [h.le.blk j c hc] at hj; cases hj
  exact ⟨by rw [setBlk_get, if_neg h1]; exact h.prog, by rw [setBlk_get, if_neg h2]; exact h.out, h.ne, h.no, h.np, le_set h.le h3, h.len⟩
set_option maxRecDepth 4000 in
set_option maxHeartbeats 8000000 in
theorem scope_Calls_ok (p : Pg) (σ : Heap) (h : ∀ d ∈ p.data, smallDE d) : ACalls Try.prog 10 [pgA p] σ (fun v σ' => v = callsA (callsP p) ∧ σ' = σ) := by
  have hchk := fun σ => scope_Check_ok p σ h
  refine i_scope_Calls (by simp) ?_
  rw [argF_1]
  unfold callsP
  by_cases hc0 : (chkP p).1 = 0
  case neg =>
    rw [if_neg hc0]
    have hne : ((chkP p).1 != 0) = true := by simpa using hc0
    obtain ⟨ds, fs⟩ := p
    simp only [pgA, Pg.enc, List.map_cons, List.map_nil, dgA] at hchk ⊢
    (repeat' (first|refine Run.ct rfl ?_|((first|refine Run.reg mixed ?_|refine Run.condM ?_|(refine xo_gs rfl (fun h => ?_) (fun h => ?_) <;> try (cases h; done))) <;> try simp -implicitDefEqProofs only [go_sem, Nat.reduceEqDiff, Nat.reduceBEq, Nat.reduceAdd, Nat.reduceLeDiff, reduceIte, reduceCtorEq])|(refine ⟨fun h => ?_, fun h => ?_⟩ <;> first|(cases h; done)|try simp only [h])|fail))
    intro jp hjp
    have hle0 := le_setBlk (cs := [AV.d (.sl (ds.map DE.enc)), .d (.sl (fs.map FE.enc))]) hjp
    (repeat' (first|refine Run.ct rfl ?_|((first|refine Run.reg mixed ?_|refine Run.condM ?_|(refine Run.retP g_scope_Calls (σ2 := σ) hle0 ?_)|refine XCall.det (hchk _) ?_|(refine xo_gs rfl (fun h => ?_) (fun h => ?_) <;> try (cases h; done))) <;> try simp -implicitDefEqProofs only [hne, go_sem, Nat.reduceEqDiff, Nat.reduceBEq, Nat.reduceAdd, Nat.reduceLeDiff, reduceIte, reduceCtorEq])|(refine ⟨fun h => ?_, fun h => ?_⟩ <;> first|(cases h; done)|try simp only [h])|fail))
    rfl
  rw [if_pos hc0]
  have hne : ((chkP p).1 != 0) = false := by simpa using hc0
  obtain ⟨ds, fs⟩ := p
  simp only [pgA, Pg.enc, List.map_cons, List.map_nil, dgA] at hchk ⊢
  (repeat' (first|refine Run.ct rfl ?_|((first|refine Run.reg mixed ?_|refine Run.condM ?_|(refine xo_gs rfl (fun h => ?_) (fun h => ?_) <;> try (cases h; done))) <;> try simp -implicitDefEqProofs only [go_sem, Nat.reduceEqDiff, Nat.reduceBEq, Nat.reduceAdd, Nat.reduceLeDiff, reduceIte, reduceCtorEq])|(refine ⟨fun h => ?_, fun h => ?_⟩ <;> first|(cases h; done)|try simp only [h])|fail))
  intro jp hjp
  have hle0 := le_setBlk (cs := [AV.d (.sl (ds.map DE.enc)), .d (.sl (fs.map FE.enc))]) hjp
  (repeat' (first|refine Run.ct rfl ?_|((first|refine Run.reg mixed ?_|refine Run.condM ?_|refine XCall.det (hchk _) ?_|(refine xo_gs rfl (fun h => ?_) (fun h => ?_) <;> try (cases h; done))) <;> try simp -implicitDefEqProofs only [hne, List.length_map, go_sem, Nat.reduceEqDiff, Nat.reduceBEq, Nat.reduceAdd, Nat.reduceLeDiff, reduceIte, reduceCtorEq])|(refine ⟨fun h => ?_, fun h => ?_⟩ <;> first|(cases h; done)|try simp only [h])|fail))
  obtain ⟨hbig, hfacts⟩ := chkP_facts hc0
  simp only at hbig hfacts
  generalize hQ : (fun (v : AV) (σ' : Heap) => v = callsA (fs.map (callF fs)) ∧ σ' = σ) = Q
  have hok : Q (callsA (fs.map (callF fs))) σ := by rw [← hQ]; exact ⟨rfl, rfl⟩
  clear hQ
  refine XMsl.mk (n := fs.length) (by omega) (by omega) (fun jo hjo => ?_)
  have hne0 : jo ≠ jp := fun e => by rw [e, setBlk_get, if_pos rfl] at hjo; cases hjo
  have hjo' : σ.blk jo = none := by rw [setBlk_get, if_neg hne0] at hjo; exact hjo
  have hflat : (List.replicate fs.length [AV.nils]).flatten = List.replicate fs.length AV.nils := by
    induction fs.length with
    | zero => rfl
    | succ n ih => rw [List.replicate_succ, List.flatten_cons, ih]; rfl
  rw [hflat]
  have hcs0 : CS σ jp jo ds fs (List.replicate fs.length AV.nils) ((σ.setBlk jp [AV.d (.sl (ds.map DE.enc)), .d (.sl (fs.map FE.enc))]).setBlk jo (List.replicate fs.length AV.nils)) :=
    ⟨by rw [setBlk_get, if_neg (Ne.symm hne0), setBlk_get, if_pos rfl], by rw [setBlk_get, if_pos rfl], hne0, hjo', hjp, le_set hle0 hjo', by simp⟩
  generalize (σ.setBlk jp [AV.d (.sl (ds.map DE.enc)), .d (.sl (fs.map FE.enc))]).setBlk jo (List.replicate fs.length AV.nils) = τ0 at hcs0
  have hp0 := hcs0.prog
  (repeat' (first|refine Run.ct rfl ?_|((first|refine Run.reg mixed ?_|refine Run.condM ?_|(refine xo_gs rfl (fun h => ?_) (fun h => ?_) <;> try (cases h; done))) <;> try simp -implicitDefEqProofs only [hp0, List.length_map, go_sem, Nat.reduceEqDiff, Nat.reduceBEq, Nat.reduceAdd, Nat.reduceLeDiff, reduceIte, reduceCtorEq])|(refine ⟨fun h => ?_, fun h => ?_⟩ <;> first|(cases h; done)|try simp only [h])|fail))
  refine Run.loopA ?_
  refine Run.loopI ((fun (a1 : AV) (a3 : AV) (a18 : AV) (a19 : AV) => fun (y : Nat × List AV × Heap) => put 1 a1 (put 3 a3 (put 18 a18 (put 19 a19 (put 20 (.d (.int .i64 y.1)) U))))) _ _ _ _) (fun _ => E) (fun y => y.2.2)
    (fun y => y.1 ≤ fs.length ∧ CS σ jp jo ds fs y.2.1 y.2.2 ∧ (∀ k f, k < y.1 → fs[k]? = some f → ∃ cv, y.2.1[k]? = some cv ∧ SlV cv ((callF fs f).map natR)) ∧ ∀ k, y.1 ≤ k → k < fs.length → y.2.1[k]? = some .nils)
    (fun y => fs.length - y.1) ?_ (0, List.replicate fs.length AV.nils, τ0) ⟨by simp, hcs0, fun k f hk => by simp only at hk; omega, fun k _ hk => by simp [hk]⟩
  rintro ⟨i, cells, τ⟩ ⟨hi, hcs, hdone, hrest⟩ ih
  simp only at hi hcs hdone hrest
  by_cases hlt : i < fs.length
  · obtain ⟨f, hf⟩ := ex_at hlt
    have he := row_at (enc := FE.enc) hf
    have hw1 := wrap_succ (show i + 1 ≤ 9000000000000000000 by omega)
    obtain ⟨hsz, hx⟩ := hfacts f (List.mem_of_getElem? hf)
    have hp1 := hcs.prog
    obtain ⟨nm, ps, o, n, u, ns, ks, al⟩ := f
    simp only [FE.enc, Ex.enc_mk, List.map_cons, List.map_nil] at he
    (repeat' (first|refine Run.ct rfl ?_|((first|refine Run.reg mixed ?_|refine Run.condM ?_|(refine XMsl.mk (n := fs.length) (by omega) (by omega) (fun jm hjm => ?_))|(refine xo_gs rfl (fun h => ?_) (fun h => ?_) <;> try (cases h; done))) <;> try simp -implicitDefEqProofs only [lt_t hlt, he, hp1, List.length_map, go_sem, Nat.reduceEqDiff, Nat.reduceBEq, Nat.reduceAdd, Nat.reduceLeDiff, reduceIte, reduceCtorEq])|(refine ⟨fun h => ?_, fun h => ?_⟩ <;> first|(cases h; done)|try simp only [h])|fail))
    rw [bools_rep]
    have hcs1 := hcs.new hjm (bools (List.replicate fs.length false))
    rintro jf ⟨hjf, hjb⟩
    have hj0 : (τ.setBlk jm (bools (List.replicate fs.length false))).blk jf = none := by rw [setBlk_get]; exact hjf
    have hbm : (τ.setBlk jm (bools (List.replicate fs.length false))).blk jm = some (bools (List.replicate fs.length false)) := by rw [setBlk_get, if_pos rfl]
    generalize τ.setBlk jm (bools (List.replicate fs.length false)) = τ1 at hcs1 hbm hj0 hjb ⊢
    have hfm : jm ≠ jf := fun e => by rw [← e, hbm] at hj0; cases hj0
    have hfp : jp ≠ jf := fun e => by rw [← e, hcs1.prog] at hj0; cases hj0
    have hfo : jo ≠ jf := fun e => by rw [← e, hcs1.out] at hj0; cases hj0
    have hsb : ∀ (τ : Heap) (i : Nat) (x : Nat × TypeId) (j : Nat), (τ.setBt i x).blk j = τ.blk j := fun _ _ _ _ => rfl
    simp -implicitDefEqProofs only [hsb, go_sem, Nat.reduceEqDiff, Nat.reduceBEq, Nat.reduceAdd, Nat.reduceLeDiff, reduceIte, reduceCtorEq]
    have hm0 : σ.blk jm = none := by
      cases hc : σ.blk jm with
      | none => rfl
      | some c => rw [hcs.le.blk jm c hc] at hjm; cases hjm
    have hf0 : σ.blk jf = none := by
      cases hc : σ.blk jf with
      | none => rfl
      | some c => rw [hcs1.le.blk jf c hc] at hj0; cases hj0
    have hmp : jp ≠ jm := fun e => by rw [← e, hcs.prog] at hjm; cases hjm
    have hmo : jo ≠ jm := fun e => by rw [← e, hcs.out] at hjm; cases hjm
    have hcs2 : CS σ jp jo ds fs cells (((τ1.setBlk jf [AV.nils]).setBt jf (1, 78)).setBlk jf [AV.ms jm fs.length 1 4]) :=
      ⟨by rw [setBlk_get, if_neg hfp, hsb, setBlk_get, if_neg hfp]; exact hcs1.prog, by rw [setBlk_get, if_neg hfo, hsb, setBlk_get, if_neg hfo]; exact hcs1.out, hcs1.ne, hcs1.no, hcs1.np, le_set (le_setBt (le_set hcs1.le hf0) hjb) hf0, hcs1.len⟩
    have hbm2 : (((τ1.setBlk jf [AV.nils]).setBt jf (1, 78)).setBlk jf [AV.ms jm fs.length 1 4]).blk jm = some (bools (List.replicate fs.length false)) := by rw [setBlk_get, if_neg hfm, hsb, setBlk_get, if_neg hfm]; exact hbm
    have hbf2 : (((τ1.setBlk jf [AV.nils]).setBt jf (1, 78)).setBlk jf [AV.ms jm fs.length 1 4]).blk jf = some [AV.ms jm fs.length 1 4] := by rw [setBlk_get, if_pos rfl]
    generalize ((τ1.setBlk jf [AV.nils]).setBt jf (1, 78)).setBlk jf [AV.ms jm fs.length 1 4] = τ2 at hcs2 hbm2 hbf2
    have hcb := callBody_ok ds fs ⟨nm, ps, .mk o n u ns ks al⟩ hsz hbig jm jf jp 4 τ2 (List.replicate fs.length false) (by simp) hbm2 (by rw [List.length_replicate]; exact hbf2) hcs2.prog (Ne.symm hfm) hmp hx
    have hcs3 : CS σ jp jo ds fs cells (τ2.setBlk jm (bools (endF fs (preP (.mk o n u ns ks al) ps) (List.replicate fs.length false)))) :=
      ⟨by rw [setBlk_get, if_neg hmp]; exact hcs2.prog, by rw [setBlk_get, if_neg hmo]; exact hcs2.out, hcs2.ne, hcs2.no, hcs2.np, le_set hcs2.le hm0, hcs2.len⟩
    have hbf3 : (τ2.setBlk jm (bools (endF fs (preP (.mk o n u ns ks al) ps) (List.replicate fs.length false)))).blk jf = some [AV.ms jm fs.length 1 4] := by rw [setBlk_get, if_neg (Ne.symm hfm)]; exact hbf2
    have hbm3 : (τ2.setBlk jm (bools (endF fs (preP (.mk o n u ns ks al) ps) (List.replicate fs.length false)))).blk jm = some (bools (endF fs (preP (.mk o n u ns ks al) ps) (List.replicate fs.length false))) := by rw [setBlk_get, if_pos rfl]
    simp only at hcb
    have hfg : ∀ g, g < fs.length → (endF fs (preP (.mk o n u ns ks al) ps) (List.replicate fs.length false))[g]? = some ((preP (.mk o n u ns ks al) ps).any (namesF fs g)) := fun g hg => by
      rw [endF_get]; simp [hg]
    have hfln : (endF fs (preP (.mk o n u ns ks al) ps) (List.replicate fs.length false)).length = fs.length := by rw [endF_len]; simp
    generalize endF fs (preP (.mk o n u ns ks al) ps) (List.replicate fs.length false) = fin at hcb hcs3 hbf3 hbm3 hfg hfln
    generalize τ2.setBlk jm (bools fin) = τ3 at hcb hcs3 hbf3 hbm3
    simp only [feA, FE.enc, Ex.enc_mk, List.map_cons, List.map_nil] at hcb
    (repeat' (first|refine Run.ct rfl ?_|((first|refine Run.reg mixed ?_|refine Run.condM ?_|(refine XCall.mk rfl hcb ?_; rintro _ τ3 ⟨rfl, rfl⟩)|(refine xo_gs rfl (fun h => ?_) (fun h => ?_) <;> try (cases h; done))) <;> try simp -implicitDefEqProofs only [hbf3, hfln, go_sem, Nat.reduceEqDiff, Nat.reduceBEq, Nat.reduceAdd, Nat.reduceLeDiff, reduceIte, reduceCtorEq])|(refine ⟨fun h => ?_, fun h => ?_⟩ <;> first|(cases h; done)|try simp only [h])|fail))
    refine Run.loopA ?_
    have hci := hrest i (Nat.le_refl _) hlt
    have hcl := hcs.len
    refine Run.loopI ((fun (a1 : AV) (a3 : AV) (a4 : AV) (a18 : AV) (a19 : AV) (a20 : AV) (a32 : AV) (a33 : AV) => fun (z : Nat × AV × Heap) => put 1 a1 (put 3 a3 (put 4 a4 (put 18 a18 (put 19 a19 (put 20 a20 (put 32 a32 (put 33 a33 (put 34 (.d (.int .i64 z.1)) U))))))))) _ _ _ _ _ _ _ _) (fun _ => E) (fun z => z.2.2)
      (fun z => z.1 ≤ fs.length ∧ CS σ jp jo ds fs (cells.set i z.2.1) z.2.2 ∧ z.2.2.blk jm = some (bools fin) ∧ OwnS σ 3 1 (((List.range z.1).filter fun g => (preP (.mk o n u ns ks al) ps).any (namesF fs g)).map natR) z.2.1 z.2.2)
      (fun z => fs.length - z.1) ?_ (0, .nils, τ3) ⟨by simp, by rw [show cells.set i .nils = cells from set_self hci]; exact hcs3, hbm3, ⟨⟨τ3, rfl, hcs3.le⟩, hcs3.le, rfl, rfl, rfl, rfl, fun _ => rfl, rfl, rfl⟩⟩
    rintro ⟨g, cv, τ4⟩ ⟨hg, hcs4, hbm4, hown⟩ ih2
    simp only at hg hcs4 hbm4 hown
    by_cases hgl : g < fs.length
    · have hbg := bools_get (hfg g hgl)
      have hwg := wrap_succ (show g + 1 ≤ 9000000000000000000 by omega)
      have ho4 := hcs4.out
      have hgi : (cells.set i cv)[i]? = some cv := by rw [List.getElem?_set]; simp; omega
      have hll : ((i : Int) < (fs.length : Int)) = True := by simp only [eq_iff_iff, iff_true]; omega
      have hll2 : ((g : Int) < (fs.length : Int)) = True := by simp only [eq_iff_iff, iff_true]; omega
      cases hb : (preP (.mk o n u ns ks al) ps).any (namesF fs g) with
      | false =>
        rw [hb] at hbg
        have hrg : (List.range (g + 1)).filter (fun g => (preP (.mk o n u ns ks al) ps).any (namesF fs g)) = (List.range g).filter (fun g => (preP (.mk o n u ns ks al) ps).any (namesF fs g)) := by
          rw [List.range_succ, List.filter_append]; simp [hb]
        (repeat' (first|refine Run.ct rfl ?_|((first|refine Run.reg mixed ?_|refine Run.condM ?_|(refine xo_gs rfl (fun h => ?_) (fun h => ?_) <;> try (cases h; done))) <;> try simp -implicitDefEqProofs only [lt_t hgl, hbm4, hbg, hwg, hll2, Nat.mul_one, go_sem, Nat.reduceEqDiff, Nat.reduceBEq, Nat.reduceAdd, Nat.reduceLeDiff, reduceIte, reduceCtorEq])|(refine ⟨fun h => ?_, fun h => ?_⟩ <;> first|(cases h; done)|try simp only [h])|fail))
        exact ih2 (g + 1, cv, τ4) ⟨by simp only; omega, hcs4, hbm4, by simp only [hrg]; exact hown⟩ (by simp only; omega)
      | true =>
        rw [hb] at hbg
        have hrg : (List.range (g + 1)).filter (fun g => (preP (.mk o n u ns ks al) ps).any (namesF fs g)) = (List.range g).filter (fun g => (preP (.mk o n u ns ks al) ps).any (namesF fs g)) ++ [g] := by
          rw [List.range_succ, List.filter_append]; simp [hb]
        have hlenR : (((List.range g).filter fun g => (preP (.mk o n u ns ks al) ps).any (namesF fs g)).map natR).length ≤ 1000 := by
          have := List.length_filter_le (fun g => (preP (.mk o n u ns ks al) ps).any (namesF fs g)) (List.range g)
          rw [List.length_range] at this
          rw [List.length_map]; omega
        have hset : ∀ v2, List.take i (cells.set i cv) ++ [v2] ++ List.drop (i + 1) (cells.set i cv) = cells.set i v2 := fun v2 => by
          rw [wr1 _ (by rw [List.length_set]; omega), List.set_set]
        have hlen1 : (i + 1 ≤ (cells.set i cv).length) = True := by simp; omega
        (repeat' (first|refine Run.ct rfl ?_|((first|refine Run.reg mixed ?_|refine Run.condM ?_|(refine XApp.own hown rfl (by simp) (by simp only [List.length_cons, List.length_nil]; omega) (by decide) (fun v2 σ2 ho2 hbk => ?_))|(refine xo_gs rfl (fun h => ?_) (fun h => ?_) <;> try (cases h; done))) <;> try simp -implicitDefEqProofs only [lt_t hgl, hbm4, hbg, hwg, hll2, Nat.mul_one, ho4, hll, hgi, hown.cell, go_sem, Nat.reduceEqDiff, Nat.reduceBEq, Nat.reduceAdd, Nat.reduceLeDiff, reduceIte, reduceCtorEq])|(refine ⟨fun h => ?_, fun h => ?_⟩ <;> first|(cases h; done)|try simp only [h])|fail))
        have hb2 := (hbk jo).trans ho4
        have hbm5 := (hbk jm).trans hbm4
        have hp5 := (hbk jp).trans hcs4.prog
        simp -implicitDefEqProofs only [hll, hb2, ho2.cell, ho2.cells, hlen1, hset, Nat.mul_one, go_sem, Nat.reduceEqDiff, Nat.reduceBEq, Nat.reduceAdd, Nat.reduceLeDiff, reduceIte, reduceCtorEq]
        (repeat' (first|refine Run.ct rfl ?_|((first|refine Run.reg mixed ?_|refine Run.condM ?_|(refine xo_gs rfl (fun h => ?_) (fun h => ?_) <;> try (cases h; done))) <;> try simp -implicitDefEqProofs only [hwg, go_sem, Nat.reduceEqDiff, Nat.reduceBEq, Nat.reduceAdd, Nat.reduceLeDiff, reduceIte, reduceCtorEq])|(refine ⟨fun h => ?_, fun h => ?_⟩ <;> first|(cases h; done)|try simp only [h])|fail))
        have ho3 := ho2.set hcs4.no (cells.set i v2)
        exact ih2 (g + 1, v2, σ2.setBlk jo (cells.set i v2)) ⟨by simp only; omega, ⟨by rw [setBlk_get, if_neg (Ne.symm hcs4.ne)]; exact hp5, by rw [setBlk_get, if_pos rfl], hcs4.ne, hcs4.no, hcs4.np, ho3.le, by simp [hcl]⟩, by rw [setBlk_get, if_neg (Ne.symm hmo)]; exact hbm5, by simp only [hrg, List.map_append]; exact ho3⟩ (by simp only; omega)
    · have hgn : g = fs.length := by omega
      subst hgn
      (repeat' (first|refine Run.ct rfl ?_|((first|refine Run.reg mixed ?_|refine Run.condM ?_|(refine xo_gs rfl (fun h => ?_) (fun h => ?_) <;> try (cases h; done))) <;> try simp -implicitDefEqProofs only [lt_f hgl, hw1, go_sem, Nat.reduceEqDiff, Nat.reduceBEq, Nat.reduceAdd, Nat.reduceLeDiff, reduceIte, reduceCtorEq])|(refine ⟨fun h => ?_, fun h => ?_⟩ <;> first|(cases h; done)|try simp only [h])|fail))
      refine ih (i + 1, cells.set i cv, τ4) ⟨by simp only; omega, hcs4, fun k f hk hfk => ?_, fun k hk hkl => ?_⟩ (by simp only; omega)
      · simp only at hk ⊢
        by_cases hki : k = i
        · subst hki
          rw [hf] at hfk; cases hfk
          exact ⟨cv, by rw [List.getElem?_set]; simp; omega, hown.slv⟩
        · rw [List.getElem?_set, if_neg (fun e => hki e.symm)]
          exact hdone k f (by omega) hfk
      · simp only at hk ⊢
        rw [List.getElem?_set, if_neg (by omega)]
        exact hrest k (by omega) hkl
  · have hin : i = fs.length := by omega
    subst hin
    obtain ⟨dvl, hdv, hch⟩ := out_enc (r := fun f => (callF fs f).map natR) hcs.len (fun k f hk => hdone k f (List.getElem?_eq_some_iff.1 hk).1 hk)
    (repeat' (first|refine Run.ct rfl ?_|((first|refine Run.reg mixed ?_|refine Run.condM ?_|(refine xo_gs rfl (fun h => ?_) (fun h => ?_) <;> try (cases h; done))) <;> try simp -implicitDefEqProofs only [lt_f hlt, go_sem, Nat.reduceEqDiff, Nat.reduceBEq, Nat.reduceAdd, Nat.reduceLeDiff, reduceIte, reduceCtorEq])|(refine ⟨fun h => ?_, fun h => ?_⟩ <;> first|(cases h; done)|try simp only [h])|fail))
    refine Run.freeze (F' := put 2 (callsA (fs.map (callF fs))) U) (σ' := { τ with blk := fun j => if (σ.blk j).isSome then τ.blk j else none }) hcs.out hdv (by rw [hcs.len, Nat.mul_one]) (Nat.le_trans hbig (by decide)) (fun s => ?_) (fun k cs' hk => ⟨cs', hk, .inl rfl⟩) (fun j cs' hj' => ?_) (fun _ h => h) ?_
    · by_cases h2 : s = 2
      · subst h2
        right
        simp only [put_get, if_true, frz, and_self, callsA, hch, List.map_map]
        rfl
      · left
        simp only [put_get, if_neg h2]
    · simp only at hj'
      cases hs : σ.blk j with
      | none => rw [hs] at hj'; cases hj'
      | some c =>
        rw [hs] at hj'
        exact ⟨(fun e => by rw [e, hcs.no] at hs; cases hs), cs', hj', .inl rfl⟩
    · refine Run.retP g_scope_Calls (σ2 := σ) (le_cut hcs.le) ?_
      simp -implicitDefEqProofs only [rs_scope_Calls, callsA, go_sem, Nat.reduceEqDiff, Nat.reduceBEq, Nat.reduceAdd, Nat.reduceLeDiff, reduceIte, reduceCtorEq]
      exact hok
end Go.Ab
