/- Renamed programs, in plain data: names. Renamed programs, in plain data: validity, names and calls. Conditions: none. -/
import Derived.Test.YtlckhmkeihbhmaaXVs
set_option linter.unusedSimpArgs false
namespace Go.Ab
def nameOk (s : Str) : Prop := ∃ b r, s = b :: r ∧ lowB b.toNat = true ∧ (∀ x ∈ s, clsB witB x = true) ∧ s.length ≤ 24 ∧ keyB s = false
theorem takeWhile_all {α : Type} {p : α → Bool} : ∀ {l : List α}, (∀ x ∈ l, p x = true) → l.takeWhile p = l
  | [], _ => rfl
  | x :: l, h => by
    rw [List.takeWhile_cons, h x (List.mem_cons_self ..), if_pos rfl, takeWhile_all (fun y hy => h y (List.mem_cons_of_mem _ hy))]
theorem takeWhile_eq {α : Type} {p : α → Bool} : ∀ {l : List α}, l.takeWhile p = l → ∀ x ∈ l, p x = true
  | [], _, x, hx => by cases hx
  | y :: l, h, x, hx => by
    rw [List.takeWhile_cons] at h
    split at h
    · rename_i hy
      rcases List.mem_cons.1 hx with rfl | hx
      · exact hy
      · exact takeWhile_eq (by simpa using h) x hx
    · cases h
theorem low_facts {b : UInt8} (h : lowB b.toNat = true) : blaB b.toNat = false ∧ (b == 35) = false ∧ uppB b.toNat = false := by
  simp only [lowB, Bool.and_eq_true, decide_eq_true_eq] at h
  refine ⟨?_, ?_, ?_⟩
  · simp only [blaB, Bool.or_eq_false_iff]
    refine ⟨⟨⟨?_, ?_⟩, ?_⟩, ?_⟩ <;> (apply beqF; omega)
  · cases hb : (b == 35) with
    | false => rfl
    | true =>
      rw [beq_iff_eq] at hb; subst hb
      have := h.1
      exact absurd this (by decide)
  · simp only [uppB, Bool.and_eq_false_iff, decide_eq_false_iff_not]; omega
theorem name_ok {s : Str} (h : nameOk s) : nameB s = true := by
  obtain ⟨b, r, rfl, hl, hw, hn, hk⟩ := h
  obtain ⟨h1, h2, h3⟩ := low_facts hl
  have hsc : scanP (b :: r) = .ok (1, b :: r) := by
    rw [scanP, takeWhile_all hw, hl, h3, hk, decide_eq_false (by omega)]
    rfl
  have hsp : splitP (b :: r) = ([⟨1, b :: r, 0⟩, ⟨6, [], 0 + (b :: r).length⟩], 0, 0) := by
    rw [splitP, if_neg (by omega), splGo]
    simp only [h1, h2, hsc, Bool.false_eq_true, if_false]
    rw [List.drop_length]
    rw [show (b :: r).length = r.length + 1 from rfl, splGo]
    rfl
  rw [nameB, singleB, hsp]
  simp
theorem splGo_acc : ∀ (n : Nat) (rest : Str) (i : Nat) (acc : List Tok), (splGo n rest i acc).2.2 = 0 → (splGo n rest i acc).1 = [] ∨ ∃ tl, (splGo n rest i acc).1 = acc ++ tl ∧ ∀ t ∈ tl, t.text.length ≤ rest.length
  | 0, rest, i, acc, _ => .inl rfl
  | n + 1, [], i, acc, _ => .inr ⟨[⟨6, [], i⟩], rfl, fun t ht => by simp at ht; simp [ht]⟩
  | n + 1, b :: r, i, acc, h => by
    rw [splGo] at h ⊢
    split at h
    · rename_i hb
      rw [if_pos hb]
      rcases splGo_acc n r (i + 1) acc h with h | ⟨tl, h1, h2⟩
      · exact .inl h
      · exact .inr ⟨tl, h1, fun t ht => by have := h2 t ht; simp only [List.length_cons]; omega⟩
    · rename_i hb
      rw [if_neg hb]
      split at h
      · rename_i hc
        rw [if_pos hc]
        rcases splGo_acc n _ _ acc h with h | ⟨tl, h1, h2⟩
        · exact .inl h
        · exact .inr ⟨tl, h1, fun t ht => by have := h2 t ht; rw [List.length_drop] at this; omega⟩
      · rename_i hc
        rw [if_neg hc]
        cases hs : scanP (b :: r) with
        | error e =>
          rw [hs] at h
          simp only at h
          rcases scan_err hs with rfl | rfl <;> cases h
        | ok x =>
          obtain ⟨k, t⟩ := x
          rw [hs] at h
          simp only at h ⊢
          rcases splGo_acc n _ _ _ h with h | ⟨tl, h1, h2⟩
          · exact .inl h
          · refine .inr ⟨⟨k, t, i⟩ :: tl, by rw [h1]; simp, fun u hu => ?_⟩
            rcases List.mem_cons.1 hu with rfl | hu
            · exact (scan_len hs).2
            · have := h2 u hu; rw [List.length_drop] at this; omega
theorem name_inv {s : Str} (h : nameB s = true) : nameOk s := by
  rw [nameB, singleB] at h
  simp only [Bool.and_eq_true, beq_iff_eq] at h
  obtain ⟨h0, h1, h2⟩ := h
  rw [splitP] at h0 h1 h2
  split at h0
  · cases h0
  · rename_i hle
    rw [if_neg hle] at h1 h2
    match s, h0, h1, h2 with
    | [], _, h1, _ => simp [splGo] at h1
    | b :: r, h0, h1, h2 =>
      rw [show (b :: r).length + 1 = (r.length + 1) + 1 from rfl] at h0 h1 h2
      rw [splGo] at h0 h1 h2
      have hsm : ∀ (n : Nat) (rest : Str) (i : Nat), rest.length < (b :: r).length → (splGo n rest i []).2.2 = 0 → (splGo n rest i []).1.length = 2 → (match (splGo n rest i []).1 with | [] => false | a :: _ => decide (a.kind = 1) && decide (a.text = b :: r)) = true → False := by
        intro n rest i hlt g0 g1 g2
        rcases splGo_acc n rest i [] g0 with h | ⟨tl, h, hm⟩
        · rw [h] at g1; cases g1
        · rw [h, List.nil_append] at g1 g2
          cases tl with
          | nil => cases g1
          | cons a tl =>
            simp only [Bool.and_eq_true, decide_eq_true_eq] at g2
            have := hm a (List.mem_cons_self ..)
            rw [g2.2] at this
            omega
      have hcv : ∀ (l : List Tok), (match l with | [] => false | a :: _ => a.kind == 1 && a.text == b :: r) = true → (match l with | [] => false | a :: _ => decide (a.kind = 1) && decide (a.text = b :: r)) = true := by
        intro l hl
        cases l with
        | nil => cases hl
        | cons a l => simpa using hl
      split at h0
      · rename_i hb
        rw [if_pos hb] at h1 h2
        exact (hsm _ _ _ (by simp) h0 h1 (hcv _ h2)).elim
      · rename_i hb
        rw [if_neg hb] at h1 h2
        split at h0
        · rename_i hc
          rw [if_pos hc] at h1 h2
          refine (hsm _ _ _ ?_ h0 h1 (hcv _ h2)).elim
          rw [beq_iff_eq] at hc
          subst hc
          have : 1 ≤ cmt (35 :: r) := by simp [cmt]
          rw [List.length_drop]; simp only [List.length_cons]; omega
        · rename_i hc
          rw [if_neg hc] at h1 h2
          cases hs : scanP (b :: r) with
          | error e =>
            rw [hs] at h0
            rcases scan_err hs with rfl | rfl <;> cases h0
          | ok x =>
            obtain ⟨k, t⟩ := x
            rw [hs] at h0 h1 h2
            rcases splGo_acc _ _ _ _ h0 with h | ⟨tl, h, hm⟩
            · rw [h] at h1; cases h1
            · rw [h] at h2
              replace h2 : (k == 1 && t == b :: r) = true := h2
              rw [Bool.and_eq_true, beq_iff_eq, beq_iff_eq] at h2
              obtain ⟨rfl, rfl⟩ := h2
              rw [scanP] at hs
              split at hs
              · rename_i hlu
                split at hs
                · cases hs
                · rename_i hlen
                  split at hs
                  · cases hs
                  · rename_i hup
                    split at hs
                    · cases hs
                    · rename_i hkey
                      simp only [Except.ok.injEq, Prod.mk.injEq, true_and] at hs
                      rw [hs] at hlen hkey
                      refine ⟨b, r, rfl, ?_, takeWhile_eq hs, by simpa using hlen, by simpa using hkey⟩
                      rw [Bool.not_eq_true] at hup
                      rw [hup, Bool.or_false] at hlu
                      exact hlu
              · split at hs
                · split at hs
                  · cases hs
                  · split at hs <;> cases hs
                · split at hs <;> cases hs
theorem keyQ (s : Str) : keyB (s ++ [81]) = false := by
  rw [Bool.eq_false_iff]
  intro h
  simp only [keyB, List.any_eq_true, beq_iff_eq] at h
  obtain ⟨w, hw, he⟩ := h
  have : ∀ w ∈ keyWords, (81 : UInt8) ∉ w := by decide
  exact this w hw (by rw [← he]; simp)
def sufS (s : Str) : Str := if s = [] then [] else s ++ [81]
theorem sufS_ne {s : Str} (h : s ≠ []) : sufS s = s ++ [81] := if_neg h
theorem sufS_nil {s : Str} : sufS s = [] ↔ s = [] := by
  unfold sufS
  split
  · simp [*]
  · simp [*]
theorem sufS_inj {s t : Str} (h : sufS s = sufS t) : s = t := by
  unfold sufS at h
  split at h
  · rename_i hs
    split at h
    · rename_i ht; rw [hs, ht]
    · simp at h
  · split at h
    · simp at h
    · exact List.append_cancel_right h
theorem sufS_eqv (s t : Str) : (sufS s == sufS t) = (s == t) := by
  rw [Bool.eq_iff_iff, beq_iff_eq, beq_iff_eq]
  exact ⟨sufS_inj, fun h => by rw [h]⟩
theorem sufS_emp (s : Str) : (sufS s == []) = (s == []) := by
  rw [Bool.eq_iff_iff, beq_iff_eq, beq_iff_eq]; exact sufS_nil
theorem sufS_len (s : Str) : (sufS s).length ≤ s.length + 1 := by
  unfold sufS
  split
  · simp
  · simp
theorem suf_eqv (s t : Str) : (s ++ [81] == t ++ [81]) = (s == t) := by
  rw [Bool.eq_iff_iff, beq_iff_eq, beq_iff_eq]
  exact ⟨List.append_cancel_right, fun h => by rw [h]⟩
theorem nameB_suf {s : Str} (h : nameB s = true) (hl : s.length ≤ 23) : nameB (s ++ [81]) = true := by
  obtain ⟨b, r, rfl, h1, h2, h3, h4⟩ := name_inv h
  refine name_ok ⟨b, r ++ [81], rfl, h1, fun x hx => ?_, by simp at hl ⊢; omega, keyQ _⟩
  rw [List.mem_append] at hx
  rcases hx with hx | hx
  · exact h2 x hx
  · simp at hx; subst hx; decide
theorem nameB_sufS {s : Str} (h : nameB s = true) (hl : s.length ≤ 23) : nameB (sufS s) = true := by
  rw [sufS_ne (nameB_ne h)]; exact nameB_suf h hl
theorem bindB_sufS {s : Str} (h : bindB s = true) (hl : s.length ≤ 23) : bindB (sufS s) = true := by
  simp only [bindB, Bool.or_eq_true] at h ⊢
  rcases h with h | h
  · left; rw [sufS_emp]; exact h
  · right; exact nameB_sufS h hl
theorem idxP_inj {f : Str → Str} (hf : ∀ a b, (f a == f b) = (a == b)) (s : Str) : ∀ l : List Str, idxP (l.map f) (f s) = idxP l s
  | [] => rfl
  | x :: l => by rw [List.map_cons, idxP, idxP, hf, idxP_inj hf s l]
theorem contains_inj {f : Str → Str} (hf : ∀ a b, (f a == f b) = (a == b)) (s : Str) : ∀ l : List Str, (l.map f).contains (f s) = l.contains s
  | [] => rfl
  | x :: l => by rw [List.map_cons, List.contains_cons, List.contains_cons, hf, contains_inj hf s l]
theorem twiceB_inj {f : Str → Str} (hf : ∀ a b, (f a == f b) = (a == b)) (he : ∀ a, (f a == []) = (a == [])) : ∀ l : List Str, twiceB (l.map f) = twiceB l
  | [] => rfl
  | x :: l => by rw [List.map_cons, twiceB, twiceB, he, contains_inj hf, twiceB_inj hf he l]
end Go.Ab

namespace Go.Ab
mutual
def TE.ren : TE → TE
  | .mk k n l => .mk k (if k = 4 then n ++ [81] else n) (TE.rens l)
def TE.rens : List TE → List TE
  | [] => []
  | t :: l => t.ren :: TE.rens l
end
mutual
def Ex.ren : Ex → Ex
  | .mk o n u ns ks al => .mk o (if o = 6 then n else sufS n) u (ns.map sufS) (Ex.rens ks) (Al.rens al)
def Ex.rens : List Ex → List Ex
  | [] => []
  | t :: l => t.ren :: Ex.rens l
def Al.ren : Al → Al
  | .mk c vs b => .mk c (vs.map sufS) b.ren
def Al.rens : List Al → List Al
  | [] => []
  | t :: l => t.ren :: Al.rens l
end
theorem TE.rens_map : ∀ l : List TE, TE.rens l = l.map TE.ren
  | [] => rfl
  | t :: l => by simp [TE.rens, TE.rens_map l]
theorem Ex.rens_map : ∀ l : List Ex, Ex.rens l = l.map Ex.ren
  | [] => rfl
  | t :: l => by simp [Ex.rens, Ex.rens_map l]
theorem Al.rens_map : ∀ l : List Al, Al.rens l = l.map Al.ren
  | [] => rfl
  | t :: l => by simp [Al.rens, Al.rens_map l]
theorem TE.ren_mk (k : Int) (n : Str) (l : List TE) : (TE.mk k n l).ren = .mk k (if k = 4 then n ++ [81] else n) (l.map TE.ren) := by rw [TE.ren, TE.rens_map]
theorem Ex.ren_mk (o : Int) (n : Str) (u : Int) (ns : List Str) (ks : List Ex) (al : List Al) : (Ex.mk o n u ns ks al).ren = .mk o (if o = 6 then n else sufS n) u (ns.map sufS) (ks.map Ex.ren) (al.map Al.ren) := by rw [Ex.ren, Ex.rens_map, Al.rens_map]
theorem Al.ren_mk (c : Str) (vs : List Str) (b : Ex) : (Al.mk c vs b).ren = .mk c (vs.map sufS) b.ren := by rw [Al.ren]
def CE.ren (c : CE) : CE := ⟨c.name, c.args.map TE.ren⟩
def DE.ren (d : DE) : DE := ⟨d.name, d.vars.map sufS, d.cons.map CE.ren⟩
def FE.ren (f : FE) : FE := ⟨f.name ++ [81], f.params.map sufS, f.body.ren⟩
def Pg.ren (p : Pg) : Pg := ⟨p.data.map DE.ren, p.funs.map FE.ren⟩
def shNs (m : Nat) (l : List Str) : Prop := ∀ s ∈ l, s.length ≤ m
mutual
def TE.sh (m : Nat) : TE → Prop
  | .mk _ n l => n.length ≤ m ∧ TE.shs m l
def TE.shs (m : Nat) : List TE → Prop
  | [] => True
  | t :: l => t.sh m ∧ TE.shs m l
end
mutual
def Ex.sh (m : Nat) : Ex → Prop
  | .mk _ n _ ns ks al => n.length ≤ m ∧ shNs m ns ∧ Ex.shs m ks ∧ Al.shs m al
def Ex.shs (m : Nat) : List Ex → Prop
  | [] => True
  | t :: l => t.sh m ∧ Ex.shs m l
def Al.sh (m : Nat) : Al → Prop
  | .mk _ vs b => shNs m vs ∧ b.sh m
def Al.shs (m : Nat) : List Al → Prop
  | [] => True
  | t :: l => t.sh m ∧ Al.shs m l
end
theorem TE.shs_mem {m : Nat} : ∀ {l : List TE}, TE.shs m l ↔ ∀ t ∈ l, t.sh m
  | [] => by simp [TE.shs]
  | t :: l => by simp [TE.shs, TE.shs_mem (l := l)]
theorem Ex.shs_mem {m : Nat} : ∀ {l : List Ex}, Ex.shs m l ↔ ∀ t ∈ l, t.sh m
  | [] => by simp [Ex.shs]
  | t :: l => by simp [Ex.shs, Ex.shs_mem (l := l)]
theorem Al.shs_mem {m : Nat} : ∀ {l : List Al}, Al.shs m l ↔ ∀ t ∈ l, t.sh m
  | [] => by simp [Al.shs]
  | t :: l => by simp [Al.shs, Al.shs_mem (l := l)]
def DE.sh (m : Nat) (d : DE) : Prop := shNs m d.vars ∧ ∀ c ∈ d.cons, ∀ t ∈ c.args, t.sh m
def FE.sh (m : Nat) (f : FE) : Prop := f.name.length ≤ m ∧ shNs m f.params ∧ f.body.sh m
def Pg.sh (m : Nat) (p : Pg) : Prop := (∀ d ∈ p.data, d.sh m) ∧ ∀ f ∈ p.funs, f.sh m
theorem shapeTE_ren {k : Int} {n : Str} {q : Nat} (h : shapeTE k n q = true) (hl : n.length ≤ 23) : shapeTE k (if k = 4 then n ++ [81] else n) q = true := by
  by_cases hk : k = 4
  · subst hk
    rw [if_pos rfl]
    simp only [shapeTE] at h ⊢
    simp at h ⊢
    exact ⟨nameB_suf h.1 hl, h.2⟩
  · rw [if_neg hk]; exact h
theorem validTE_ren : ∀ (d : Nat) (t : TE), validTE d t = true → t.sh 23 → validTE d t.ren = true
  | 0, .mk .., h, _ => by cases h
  | d + 1, .mk k n l, h, hs => by
    rw [validTE, Bool.and_eq_true, List.all_eq_true] at h
    rw [TE.sh, TE.shs_mem] at hs
    rw [TE.ren_mk, validTE, Bool.and_eq_true, List.length_map, List.all_eq_true]
    refine ⟨shapeTE_ren h.1 hs.1, fun x hx => ?_⟩
    obtain ⟨t, ht, rfl⟩ := List.mem_map.1 hx
    exact validTE_ren d t (h.2 t ht) (hs.2 t ht)
theorem conB_ren {c : CE} (h : conB c = true) (hs : ∀ t ∈ c.args, t.sh 23) : conB c.ren = true := by
  simp only [conB, CE.ren, Bool.and_eq_true, List.all_eq_true, List.length_map] at h ⊢
  refine ⟨h.1, fun x hx => ?_⟩
  obtain ⟨t, ht, rfl⟩ := List.mem_map.1 hx
  exact validTE_ren 40 t (h.2 t ht) (hs t ht)
theorem all_sufS {p : Str → Bool} (hp : ∀ s, p s = true → s.length ≤ 23 → p (sufS s) = true) {l : List Str} (h : l.all p = true) (hs : shNs 23 l) : (l.map sufS).all p = true := by
  rw [List.all_eq_true] at h ⊢
  intro x hx
  obtain ⟨s, hm, rfl⟩ := List.mem_map.1 hx
  exact hp s (h s hm) (hs s hm)
theorem dataB_ren {d : DE} (h : dataB d = true) (hs : d.sh 23) : dataB d.ren = true := by
  simp only [dataB, DE.ren, Bool.and_eq_true, List.length_map] at h ⊢
  obtain ⟨⟨⟨⟨⟨h1, h2⟩, h3⟩, h4⟩, h5⟩, h6⟩ := h
  refine ⟨⟨⟨⟨⟨h1, h2⟩, all_sufS (fun s hs hl => nameB_sufS hs hl) h3 hs.1⟩, h4⟩, h5⟩, ?_⟩
  rw [List.all_eq_true] at h6 ⊢
  intro x hx
  obtain ⟨c, hc, rfl⟩ := List.mem_map.1 hx
  exact conB_ren (h6 c hc) (hs.2 c hc)
theorem altB_ren {a : Al} (h : altB a = true) (hs : a.sh 23) : altB a.ren = true := by
  obtain ⟨c, vs, b⟩ := a
  rw [Al.ren_mk]
  simp only [altB, Bool.and_eq_true, List.length_map] at h ⊢
  rw [Al.sh] at hs
  exact ⟨h.1, all_sufS (fun s hs hl => bindB_sufS hs hl) h.2 hs.1⟩
theorem nmB_ren {o : Int} {n : Str} (h : nmB o n = true) (hl : n.length ≤ 23) : nmB o (if o = 6 then n else sufS n) = true := by
  unfold nmB at h ⊢
  by_cases h6 : o = 6
  · rw [if_pos h6]; exact h
  · rw [if_neg h6]
    by_cases h4 : o = 4
    · rw [if_pos h4] at h ⊢; exact nameB_sufS h hl
    · rw [if_neg h4, if_neg h6] at h ⊢
      by_cases h7 : o = 7 ∨ o = 17
      · rw [if_pos h7] at h ⊢; exact bindB_sufS h hl
      · rw [if_neg h7] at h ⊢; rw [sufS_emp]; exact h
theorem nsB_ren {o : Int} {ns : List Str} (h : nsB o ns = true) (hs : shNs 23 ns) : nsB o (ns.map sufS) = true := by
  unfold nsB at h ⊢
  rw [List.length_map]
  by_cases h8 : o = 8
  · rw [if_pos h8] at h ⊢
    simp only [Bool.and_eq_true] at h ⊢
    exact ⟨h.1, all_sufS (fun s hs hl => bindB_sufS hs hl) h.2 hs⟩
  · rw [if_neg h8] at h ⊢
    by_cases h11 : o = 11
    · rw [if_pos h11] at h ⊢
      simp only [Bool.and_eq_true] at h ⊢
      exact ⟨h.1, all_sufS (fun s hs hl => nameB_sufS hs hl) h.2 hs⟩
    · rw [if_neg h11] at h ⊢; exact h
theorem asB_ren {o : Int} {al : List Al} (h : asB o al = true) (hs : ∀ a ∈ al, a.sh 23) : asB o (al.map Al.ren) = true := by
  unfold asB at h ⊢
  rw [List.length_map]
  split at h
  · rename_i h10
    rw [if_pos h10]
    simp only [Bool.and_eq_true, List.all_eq_true] at h ⊢
    refine ⟨h.1, fun x hx => ?_⟩
    obtain ⟨a, ha, rfl⟩ := List.mem_map.1 hx
    exact altB_ren (h.2 a ha) (hs a ha)
  · rename_i h10
    rw [if_neg h10]; exact h
theorem nodeB_ren {o : Int} {n : Str} {u : Int} {ns : List Str} {nk : Nat} {al : List Al} (h : nodeB o n u ns nk al = true) (hl : n.length ≤ 23) (hs : shNs 23 ns) (ha : ∀ a ∈ al, a.sh 23) :
    nodeB o (if o = 6 then n else sufS n) u (ns.map sufS) nk (al.map Al.ren) = true := by
  simp only [nodeB, Bool.and_eq_true] at h ⊢
  obtain ⟨⟨⟨⟨h1, h2⟩, h3⟩, h4⟩, h5⟩ := h
  exact ⟨⟨⟨⟨nmB_ren h1 hl, h2⟩, nsB_ren h3 hs⟩, asB_ren h4 ha⟩, h5⟩
theorem foldM_ren {α β : Type} {f : Nat → α → Option Nat} {g : Nat → β → Option Nat} {m : α → β} : ∀ (l : List α) (q r : Nat), (∀ x ∈ l, ∀ a b, f a x = some b → g a (m x) = some b) → l.foldlM f q = some r → (l.map m).foldlM g q = some r
  | [], q, r, _, h => h
  | x :: l, q, r, hf, h => by
    rw [List.foldlM_cons, Option.bind_eq_bind, Option.bind_eq_some_iff] at h
    obtain ⟨b, hb, h⟩ := h
    rw [List.map_cons, List.foldlM_cons, Option.bind_eq_bind, hf x (List.mem_cons_self ..) q b hb, Option.bind_some]
    exact foldM_ren l b r (fun y hy => hf y (List.mem_cons_of_mem _ hy)) h
theorem vEx_ren : ∀ (d q : Nat) (e : Ex) (r : Nat), vEx d q e = some r → e.sh 23 → vEx d q e.ren = some r
  | 0, q, .mk .., r, h, _ => by simp [vEx] at h
  | d + 1, 0, .mk .., r, h, _ => by cases h
  | d + 1, q + 1, .mk o n u ns ks al, r, h, hs => by
    rw [Ex.sh, Ex.shs_mem, Al.shs_mem] at hs
    obtain ⟨s1, s2, s3, s4⟩ := hs
    rw [Ex.ren_mk]
    simp only [vEx, List.length_map] at h ⊢
    split at h
    · rename_i hn
      rw [Option.bind_eq_some_iff] at h
      obtain ⟨c, hc, h⟩ := h
      rw [if_pos (nodeB_ren hn s1 s2 s4), foldM_ren (g := fun q e => vEx d q e) (m := Ex.ren) ks q c (fun x hx a b hab => vEx_ren d a x b hab (s3 x hx)) hc, Option.bind_some]
      refine foldM_ren (m := Al.ren) al c r (fun x hx a b hab => ?_) h
      obtain ⟨cc, vs, bd⟩ := x
      rw [Al.ren_mk]
      have := s4 _ hx
      rw [Al.sh] at this
      exact vEx_ren d a bd b hab this.2
    · cases h
theorem headB_ren {f : FE} (h : headB f = true) (hs : f.sh 23) : headB f.ren = true := by
  simp only [headB, FE.ren, Bool.and_eq_true, List.length_map] at h ⊢
  exact ⟨⟨nameB_suf h.1.1 hs.1, h.1.2⟩, all_sufS (fun s hs hl => nameB_sufS hs hl) h.2 hs.2.1⟩
theorem validB_ren {p : Pg} (h : validB p = true) (hs : p.sh 23) : validB p.ren = true := by
  simp only [validB, Pg.ren, Bool.and_eq_true, List.length_map] at h ⊢
  obtain ⟨⟨⟨h1, h2⟩, h3⟩, h4⟩ := h
  refine ⟨⟨⟨h1, h2⟩, ?_⟩, ?_⟩
  · rw [List.all_eq_true] at h3 ⊢
    intro x hx
    obtain ⟨c, hc, rfl⟩ := List.mem_map.1 hx
    exact dataB_ren (h3 c hc) (hs.1 c hc)
  · obtain ⟨r, hr⟩ := Option.isSome_iff_exists.1 h4
    rw [foldM_ren (g := vFun) (m := FE.ren) p.funs 600 r (fun f hf a b hab => ?_) hr]
    · rfl
    · unfold vFun at hab ⊢
      split at hab
      · rename_i hh
        rw [if_pos (headB_ren hh (hs.2 f hf))]
        exact vEx_ren 40 a f.body b hab (hs.2 f hf).2.2
      · cases hab
mutual
def TE.vn : TE → Prop
  | .mk k n l => (k = 4 → n ≠ []) ∧ TE.vns l
def TE.vns : List TE → Prop
  | [] => True
  | t :: l => t.vn ∧ TE.vns l
end
theorem TE.vns_mem : ∀ {l : List TE}, TE.vns l ↔ ∀ t ∈ l, t.vn
  | [] => by simp [TE.vns]
  | t :: l => by simp [TE.vns, TE.vns_mem (l := l)]
theorem validTE_vn : ∀ (d : Nat) (t : TE), validTE d t = true → t.vn
  | 0, .mk .., h => by cases h
  | d + 1, .mk k n l, h => by
    rw [validTE, Bool.and_eq_true, List.all_eq_true] at h
    rw [TE.vn, TE.vns_mem]
    refine ⟨fun hk => ?_, fun t ht => validTE_vn d t (h.2 t ht)⟩
    have := h.1
    subst hk
    simp [shapeTE] at this
    exact nameB_ne this.1
theorem paramsB_ren : ∀ (l : List TE) (vs : List Str), (∀ t ∈ l, t.vn) → paramsB (l.map TE.ren) (vs.map sufS) = paramsB l vs
  | [], [], _ => rfl
  | [], v :: vs, _ => rfl
  | .mk k n args :: l, [], _ => by rw [List.map_cons, TE.ren_mk]; rfl
  | .mk k n args :: l, v :: vs, h => by
    rw [List.map_cons, List.map_cons, TE.ren_mk, paramsB, paramsB, paramsB_ren l vs (fun t ht => h t (List.mem_cons_of_mem _ ht))]
    have h1 := h _ (List.mem_cons_self ..)
    rw [TE.vn] at h1
    by_cases hk : k = 4
    · rw [if_pos hk, ← sufS_ne (h1.1 hk), sufS_eqv]
    · simp only [beqF hk, Bool.false_and]
theorem resP_ren (ds : List (Str × Nat)) (vars : List Str) : ∀ (N : Nat) (t : TE), t.size ≤ N → t.vn → ∀ whole, resP ds (vars.map sufS) whole t.ren = resP ds vars whole t := by
  intro N
  induction N with
  | zero => intro t h; have := TE.size_pos t; omega
  | succ N ih =>
  rintro ⟨k, n, l⟩ hN hv whole
  rw [TE.vn, TE.vns_mem] at hv
  simp only [TE.size] at hN
  have hl : ∀ (l' : List TE), (∀ x ∈ l', x ∈ l) → resPs ds (vars.map sufS) (l'.map TE.ren) = resPs ds vars l' := by
    intro l'
    induction l' with
    | nil => intro _; rfl
    | cons x l' ihl =>
      intro hx
      have hxm := hx x (List.mem_cons_self ..)
      have := TE.mem_sz hxm
      rw [List.map_cons, resPs, resPs, ih x (by omega) (hv.2 x hxm), ihl (fun y hy => hx y (List.mem_cons_of_mem _ hy))]
      skip
  have hl' := hl l (fun _ h => h)
  rw [TE.ren_mk, resP, resP, hl', List.length_map, paramsB_ren l vars hv.2]
  by_cases hk : k = 4
  · rw [if_pos hk, if_pos hk, if_pos hk, ← sufS_ne (hv.1 hk), idxP_inj sufS_eqv]
    skip
  · rw [if_neg hk, if_neg hk, if_neg hk]
    skip
theorem argsP_ren (ds : List (Str × Nat)) (vars : List Str) : ∀ (l : List TE), (∀ t ∈ l, t.vn) → argsP ds (vars.map sufS) (l.map TE.ren) = argsP ds vars l
  | [], _ => rfl
  | t :: l, h => by
    rw [List.map_cons, argsP, argsP, resP_ren ds vars _ t (Nat.le_refl _) (h t (List.mem_cons_self ..)), argsP_ren ds vars l (fun x hx => h x (List.mem_cons_of_mem _ hx))]
    skip
theorem consP_ren (ds : List (Str × Nat)) (vars : List Str) : ∀ (l : List CE) (used : List Str), (∀ c ∈ l, ∀ t ∈ c.args, t.vn) → consP ds (vars.map sufS) used (l.map CE.ren) = consP ds vars used l
  | [], used, _ => rfl
  | c :: l, used, h => by
    rw [List.map_cons, consP, consP, show (CE.ren c).args = c.args.map TE.ren from rfl, argsP_ren ds vars c.args (h c (List.mem_cons_self ..)), show (CE.ren c).name = c.name from rfl, consP_ren ds vars l (used ++ [c.name]) (fun x hx => h x (List.mem_cons_of_mem _ hx))]
    skip
theorem headsP_ren (l : List DE) : headsP (l.map DE.ren) = headsP l := by
  simp [headsP, DE.ren, Function.comp_def]
theorem usedP_ren (l : List DE) : usedP (l.map DE.ren) = usedP l := by
  simp [usedP, DE.ren, CE.ren, Function.comp_def, List.flatMap_map]
theorem declP_ren (ds : List (Str × Nat)) (used : List Str) (d : DE) (h : ∀ c ∈ d.cons, ∀ t ∈ c.args, t.vn) : declP ds used d.ren = declP ds used d := by
  unfold declP
  rw [show d.ren.name = d.name from rfl, show d.ren.vars = d.vars.map sufS from rfl, show d.ren.cons = d.cons.map CE.ren from rfl, twiceB_inj sufS_eqv sufS_emp, List.length_map, consP_ren _ _ _ _ h]
theorem datGo_ren : ∀ (l done : List DE), (∀ d ∈ l, ∀ c ∈ d.cons, ∀ t ∈ c.args, t.vn) → datGo (done.map DE.ren) (l.map DE.ren) = datGo done l
  | [], done, _ => rfl
  | d :: l, done, h => by
    have := datGo_ren l (done ++ [d]) (fun x hx => h x (List.mem_cons_of_mem _ hx))
    rw [List.map_append, List.map_cons, List.map_nil] at this
    rw [List.map_cons, datGo, datGo, headsP_ren, usedP_ren, declP_ren _ _ d (h d (List.mem_cons_self ..)), this, List.length_map]
    skip
theorem data_vn {p : Pg} (h : validB p = true) : ∀ d ∈ p.data, ∀ c ∈ d.cons, ∀ t ∈ c.args, t.vn := by
  simp only [validB, Bool.and_eq_true, List.all_eq_true] at h
  intro d hd c hc t ht
  have := h.1.2 d hd
  simp only [dataB, Bool.and_eq_true, List.all_eq_true] at this
  have := this.2 c hc
  simp only [conB, Bool.and_eq_true, List.all_eq_true] at this
  exact validTE_vn 40 t (this.2 t ht)
theorem dataP_ren {p : Pg} (h : validB p = true) (hs : p.sh 23) : dataP p.ren = dataP p := by
  unfold dataP
  rw [h, validB_ren h hs, show p.ren.data = p.data.map DE.ren from rfl, ← datGo_ren p.data [] (data_vn h)]
  rfl
theorem innP_ren (o : Int) (n : Str) (ns sc : List Str) (i : Nat) : innP o (if o = 6 then n else sufS n) (ns.map sufS) (sc.map sufS) i = (innP o n ns sc i).map sufS := by
  unfold innP
  by_cases h : (o = 7 ∨ o = 17) ∧ i = 1
  · have h6 : o ≠ 6 := by omega
    rw [if_pos h, if_pos h, if_neg h6]
    by_cases hn : n = []
    · rw [if_pos hn, if_pos (sufS_nil.2 hn)]
    · rw [if_neg hn, if_neg (fun h => hn (sufS_nil.1 h)), List.map_append]; rfl
  · rw [if_neg h, if_neg h]
    split
    · rw [List.map_append]
    · rfl
def renX (x : Ex × List Str) : Ex × List Str := (x.1.ren, x.2.map sufS)
mutual
theorem preP_ren : ∀ (e : Ex) (sc : List Str), preP e.ren (sc.map sufS) = (preP e sc).map renX
  | .mk o n u ns ks al, sc => by
    rw [Ex.ren, preP, preP, List.map_cons, List.map_append, preKs_ren o n ns sc 0 ks, preAs_ren sc al]
    rw [renX, Ex.ren]
theorem preKs_ren (o : Int) (n : Str) (ns sc : List Str) : ∀ (i : Nat) (l : List Ex), preKs o (if o = 6 then n else sufS n) (ns.map sufS) (sc.map sufS) i (Ex.rens l) = (preKs o n ns sc i l).map renX
  | i, [] => by rw [Ex.rens, preKs, preKs]; rfl
  | i, k :: l => by rw [Ex.rens, preKs, preKs, List.map_append, innP_ren, preP_ren k, preKs_ren o n ns sc (i + 1) l]
theorem preA_ren : ∀ (a : Al) (sc : List Str), preA a.ren (sc.map sufS) = (preA a sc).map renX
  | .mk c vs b, sc => by rw [Al.ren, preA, preA, ← List.map_append, preP_ren b]
theorem preAs_ren (sc : List Str) : ∀ l : List Al, preAs (sc.map sufS) (Al.rens l) = (preAs sc l).map renX
  | [] => by rw [Al.rens, preAs, preAs]; rfl
  | a :: l => by rw [Al.rens, preAs, preAs, List.map_append, preA_ren a, preAs_ren sc l]
end
theorem altsGo_ren (dt : List Dat) : ∀ l : List Al, altsGo dt (l.map Al.ren) = altsGo dt l
  | [] => rfl
  | .mk c vs b :: l => by
    rw [List.map_cons, Al.ren_mk, altsGo, altsGo, altsGo_ren dt l, List.length_map, twiceB_inj sufS_eqv sufS_emp]
    skip
theorem altsP_ren (dt : List Dat) (l : List Al) : altsP dt (l.map Al.ren) = altsP dt l := by
  unfold altsP; rw [altsGo_ren]
theorem fnames_ren (fs : List FE) : fnames (fs.map FE.ren) = (fnames fs).map (· ++ [81]) := by
  simp [fnames, FE.ren, Function.comp_def]
theorem idxF_ren (fs : List FE) {n : Str} (h : n ≠ []) : idxP (fnames (fs.map FE.ren)) (sufS n) = idxP (fnames fs) n := by
  rw [fnames_ren, sufS_ne h]
  exact idxP_inj (f := fun s => s ++ [81]) (fun a b => suf_eqv a b) n (fnames fs)
theorem op_ren : ∀ e : Ex, e.ren.op = e.op
  | .mk o n u ns ks al => by rw [Ex.ren_mk]; rfl
theorem name_ren : ∀ e : Ex, e.op = 4 → e.ren.name = sufS e.name
  | .mk o n u ns ks al, h => by
    rw [Ex.ren_mk]
    replace h : o = 4 := h
    subst h
    show (if (4 : Int) = 6 then n else sufS n) = sufS n
    exact if_neg (by decide)
theorem visP_ren (fs : List FE) (dt : List Dat) (e : Ex) (sc : List Str) (hg : goodE e) : visP (fs.map FE.ren) dt e.ren (sc.map sufS) = visP fs dt e sc := by
  obtain ⟨g1, g2, _, _⟩ := hg
  obtain ⟨o, n, u, ns, ks, al⟩ := e
  replace g1 : o = 4 → n ≠ [] := g1
  replace g2 : o = 12 → ∃ h t, ks = h :: t ∧ (h.op = 4 → h.name ≠ []) := g2
  rw [Ex.ren_mk, visP_mk, visP_mk]
  by_cases h4 : o = 4
  · subst h4
    have := g1 rfl
    have h46 : (if (4 : Int) = 6 then n else sufS n) = sufS n := if_neg (by decide)
    rw [if_pos rfl, if_pos rfl, h46, contains_inj sufS_eqv, idxF_ren fs this]
  rw [if_neg h4, if_neg h4]
  by_cases h6 : o = 6
  · subst h6
    rw [if_pos rfl, if_pos rfl, if_pos rfl, List.length_map]
  rw [if_neg h6, if_neg h6]
  by_cases h8 : o = 8 ∨ o = 11
  · rw [if_pos h8, if_pos h8, twiceB_inj sufS_eqv sufS_emp]
  rw [if_neg h8, if_neg h8, altsP_ren]
  by_cases h10 : o = 10
  · rw [if_pos h10, if_pos h10]
  rw [if_neg h10, if_neg h10]
  by_cases h12 : o = 12
  · rw [if_pos h12, if_pos h12]
    obtain ⟨h, t, rfl, hh⟩ := g2 h12
    rw [List.map_cons]
    simp only [List.head?_cons, op_ren, List.length_cons, List.length_map]
    by_cases ho4 : h.op = 4
    · rw [name_ren h ho4, contains_inj sufS_eqv, idxF_ren fs (hh ho4)]
      split
      · cases idxP (fnames fs) h.name with
        | none => rfl
        | some f =>
          simp only [List.getElem?_map]
          cases fs[f]? with
          | none => rfl
          | some g =>
            simp only [Option.map_some, FE.ren, List.length_map]
      · rfl
    · simp [ho4]
  · rw [if_neg h12, if_neg h12]
theorem errP_ren {fs : List FE} {dt : List Dat} : ∀ {l : List (Ex × List Str)}, (∀ x ∈ l, goodE x.1) → errP (visP (fs.map FE.ren) dt) (l.map renX) = errP (visP fs dt) l
  | [], _ => rfl
  | x :: l, h => by
    rw [List.map_cons, errP, errP, show (renX x).1 = x.1.ren from rfl, show (renX x).2 = x.2.map sufS from rfl, visP_ren fs dt x.1 x.2 (h x (List.mem_cons_self ..)), errP_ren (fun y hy => h y (List.mem_cons_of_mem _ hy))]
theorem chkF_ren {fs : List FE} {dt : List Dat} {i : Nat} {f : FE} (h : ∀ sc x, x ∈ preP f.body sc → goodE x.1) : chkF (fs.map FE.ren) dt i f.ren = chkF fs dt i f := by
  unfold chkF
  have h1 : idxP (fnames (fs.map FE.ren)) f.ren.name = idxP (fnames fs) f.name := by
    rw [fnames_ren]; exact idxP_inj (f := fun s => s ++ [81]) (fun a b => suf_eqv a b) f.name (fnames fs)
  rw [h1, show f.ren.params = f.params.map sufS from rfl, show f.ren.body = f.body.ren from rfl, twiceB_inj sufS_eqv sufS_emp, preP_ren, errP_ren (fun x hx => h _ x hx)]
theorem chkGo_ren {fs : List FE} {dt : List Dat} : ∀ {l : List FE} {i : Nat}, (∀ f ∈ l, ∀ sc x, x ∈ preP f.body sc → goodE x.1) → chkGo (fs.map FE.ren) dt i (l.map FE.ren) = chkGo fs dt i l
  | [], i, _ => rfl
  | f :: l, i, h => by
    rw [List.map_cons, chkGo, chkGo, chkF_ren (h f (List.mem_cons_self ..)), chkGo_ren (fun g hg => h g (List.mem_cons_of_mem _ hg))]
theorem chkP_ren {p : Pg} (h : validB p = true) (hs : p.sh 23) : chkP p.ren = chkP p := by
  unfold chkP
  rw [dataP_ren h hs]
  split
  · rfl
  · exact chkGo_ren (fun f hf => ((valid_good h).2 f hf).2.2)
theorem namesF_ren (fs : List FE) (g : Nat) (x : Ex × List Str) (h : goodE x.1) : namesF (fs.map FE.ren) g (renX x) = namesF fs g x := by
  obtain ⟨⟨o, n, u, ns, ks, al⟩, sc⟩ := x
  have := h.1
  simp only [Ex.op, Ex.name] at this
  rw [renX]
  simp only [namesF, Ex.ren_mk, Ex.op, Ex.name]
  by_cases h4 : o = 4
  · subst h4
    rw [if_neg (by decide), contains_inj sufS_eqv, idxF_ren fs (this rfl)]
  · rw [beqF h4]; rfl
theorem callF_ren (fs : List FE) (f : FE) (h : ∀ sc x, x ∈ preP f.body sc → goodE x.1) : callF (fs.map FE.ren) f.ren = callF fs f := by
  unfold callF
  rw [List.length_map, show f.ren.params = f.params.map sufS from rfl, show f.ren.body = f.body.ren from rfl, preP_ren]
  congr 1
  funext g
  rw [List.any_map]
  have : ∀ (l : List (Ex × List Str)), (∀ x ∈ l, goodE x.1) → l.any (namesF (fs.map FE.ren) g ∘ renX) = l.any (namesF fs g) := by
    intro l
    induction l with
    | nil => intro _; rfl
    | cons x l ih =>
      intro hl
      rw [List.any_cons, List.any_cons, ih (fun y hy => hl y (List.mem_cons_of_mem _ hy)), Function.comp, namesF_ren fs g x (hl x (List.mem_cons_self ..))]
  exact this _ (fun x hx => h _ x hx)
theorem callsP_ren {p : Pg} (h : validB p = true) (hs : p.sh 23) : callsP p.ren = callsP p := by
  unfold callsP
  rw [chkP_ren h hs, show p.ren.funs = p.funs.map FE.ren from rfl]
  split
  · rw [List.map_map]
    apply List.map_congr_left
    intro f hf
    exact callF_ren p.funs f ((valid_good h).2 f hf).2.2
  · rfl
theorem TE.size_ren : ∀ t : TE, t.ren.size = t.size
  | .mk k n l => by rw [TE.ren, TE.size, TE.size, TE.sizes_ren l]
where TE.sizes_ren : ∀ l : List TE, TE.sizes (TE.rens l) = TE.sizes l
  | [] => rfl
  | t :: l => by rw [TE.rens, TE.sizes, TE.sizes, TE.size_ren t, TE.sizes_ren l]
theorem smallDE_ren {d : DE} (h : smallDE d) : smallDE d.ren := by
  intro c hc t ht
  obtain ⟨c', hc', rfl⟩ := List.mem_map.1 hc
  obtain ⟨t', ht', rfl⟩ := List.mem_map.1 ht
  rw [TE.size_ren]
  exact h c' hc' t' ht'
end Go.Ab
