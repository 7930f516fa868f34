/- Texts of types. Conditions: the table of powers of ten is laid. -/
import Derived.Test.YtdbpmhfepfpldaaDoorXHd
import Derived.Test.YtdbpmhfepfpldaaDoorXSj
import Derived.Test.YtdbpmhfepfpldaaDoorXGj
set_option linter.unusedSimpArgs false
set_option linter.unusedVariables false
namespace Go.Ab
open Go.Proofs

theorem r6_number_ok (n : Nat) (σ : Heap) (hn : n ≤ 1000000000000) : ACalls Tryd.prog 81 [.d (.int .i64 n)] σ (fun v σ' => v = .d (.str (Lib.decDigits n)) ∧ σ' = σ) := by
  refine i_r6_number (by simp) ?_
  rw [argF_1]
  have h10 : ((10 : Int) = 0) = False := by simp
  have hlen : (Lib.decDigits n).length ≤ 21 := by
    rw [← Lib.itoa_nonneg]; exact Lib.itoa_length_le _ (by omega) (by omega)
  have hw10 : ∀ m : Nat, m ≤ n → IntKind.i64.wrap ((m / 10 : Nat) : Int) = ((m / 10 : Nat) : Int) := fun m hm => wrap_pos (by omega) (by omega)
  (repeat' (first
      | refine Run.seq ?_
      | refine Run.skip ?_
      | refine Run.block ?_
      | refine Run.blk ?_
      | refine Run.scope ?_
      | refine Run.scp ?_
      | (refine Run.exit rfl ?_)
      | (refine Run.reg mixed ?_; simp -implicitDefEqProofs only [h10, digit_tmod, digit_w, u8_wrap (show 48 + n % 10 < 256 by omega), byte_one (show 48 + n % 10 < 256 by omega), digit_tdiv, hw10 n (Nat.le_refl n), rs_r6_number, Bool.not_eq_true', Bool.not_eq_false', go_sem, eq_self, Nat.reduceEqDiff, Nat.reduceBEq, Nat.reduceAdd, Nat.reduceLeDiff, reduceIte, reduceCtorEq, tysA, tyA, Ty.enc, Ty.encs])
      | (refine Run.condM ?_; simp -implicitDefEqProofs only [h10, digit_tmod, digit_w, u8_wrap (show 48 + n % 10 < 256 by omega), byte_one (show 48 + n % 10 < 256 by omega), digit_tdiv, hw10 n (Nat.le_refl n), rs_r6_number, Bool.not_eq_true', Bool.not_eq_false', go_sem, eq_self, Nat.reduceEqDiff, Nat.reduceBEq, Nat.reduceAdd, Nat.reduceLeDiff, reduceIte, reduceCtorEq, tysA, tyA, Ty.enc, Ty.encs])
      | (refine xo_gs rfl (fun h => ?_) (fun h => ?_) <;> first | (cases h; done) | simp -implicitDefEqProofs only [h10, digit_tmod, digit_w, u8_wrap (show 48 + n % 10 < 256 by omega), byte_one (show 48 + n % 10 < 256 by omega), digit_tdiv, hw10 n (Nat.le_refl n), rs_r6_number, Bool.not_eq_true', Bool.not_eq_false', go_sem, eq_self, Nat.reduceEqDiff, Nat.reduceBEq, Nat.reduceAdd, Nat.reduceLeDiff, reduceIte, reduceCtorEq, tysA, tyA, Ty.enc, Ty.encs])
      | (refine ⟨fun h => ?_, fun h => ?_⟩ <;> first | (cases h; done) | (simp -implicitDefEqProofs only [h]; done) | (try simp -implicitDefEqProofs only [h]))
      | fail))
  refine Run.loopA ?_
  refine Run.loopI (fun (y : Nat × List UInt8) => put 0 (.d (.int .i64 y.1)) (put 3 (.d (.str y.2)) U)) (fun _ => E) (fun _ => σ) (fun y => y.1 ≤ n ∧ Lib.decDigits n = preD y.1 ++ y.2) (fun y => y.1) ?_ (n / 10, [UInt8.ofNat (48 + n % 10)]) ⟨by simp only; omega, dec_step n⟩
  rintro ⟨m, s⟩ ⟨hm, hs⟩ ih
  simp only at hm hs
  have hsl : s.length ≤ 21 := by
    have := congrArg List.length hs
    rw [List.length_append] at this; omega
  by_cases h0 : 0 < m
  · have hd : decide ((0 : Int) < (m : Int)) = true := by simpa using h0
    (repeat' (first
      | refine Run.seq ?_
      | refine Run.skip ?_
      | refine Run.block ?_
      | refine Run.blk ?_
      | refine Run.scope ?_
      | refine Run.scp ?_
      | (refine Run.exit rfl ?_)
      | (refine Run.reg mixed ?_; simp -implicitDefEqProofs only [hd, h10, digit_tmod, digit_w, u8_wrap (show 48 + m % 10 < 256 by omega), byte_one (show 48 + m % 10 < 256 by omega), digit_tdiv, hw10 m hm, rs_r6_number, Bool.not_eq_true', Bool.not_eq_false', go_sem, eq_self, Nat.reduceEqDiff, Nat.reduceBEq, Nat.reduceAdd, Nat.reduceLeDiff, reduceIte, reduceCtorEq, tysA, tyA, Ty.enc, Ty.encs])
      | (refine Run.condM ?_; simp -implicitDefEqProofs only [hd, h10, digit_tmod, digit_w, u8_wrap (show 48 + m % 10 < 256 by omega), byte_one (show 48 + m % 10 < 256 by omega), digit_tdiv, hw10 m hm, rs_r6_number, Bool.not_eq_true', Bool.not_eq_false', go_sem, eq_self, Nat.reduceEqDiff, Nat.reduceBEq, Nat.reduceAdd, Nat.reduceLeDiff, reduceIte, reduceCtorEq, tysA, tyA, Ty.enc, Ty.encs])
      | (refine XPv.strAdd (by (try simp only [List.length_append, List.length_cons, List.length_nil]); omega) ?_; (try simp -implicitDefEqProofs only [hd, h10, digit_tmod, digit_w, u8_wrap (show 48 + m % 10 < 256 by omega), byte_one (show 48 + m % 10 < 256 by omega), digit_tdiv, hw10 m hm, rs_r6_number, Bool.not_eq_true', Bool.not_eq_false', go_sem, eq_self, Nat.reduceEqDiff, Nat.reduceBEq, Nat.reduceAdd, Nat.reduceLeDiff, reduceIte, reduceCtorEq, tysA, tyA, Ty.enc, Ty.encs]))
      | (refine xo_gs rfl (fun h => ?_) (fun h => ?_) <;> first | (cases h; done) | simp -implicitDefEqProofs only [hd, h10, digit_tmod, digit_w, u8_wrap (show 48 + m % 10 < 256 by omega), byte_one (show 48 + m % 10 < 256 by omega), digit_tdiv, hw10 m hm, rs_r6_number, Bool.not_eq_true', Bool.not_eq_false', go_sem, eq_self, Nat.reduceEqDiff, Nat.reduceBEq, Nat.reduceAdd, Nat.reduceLeDiff, reduceIte, reduceCtorEq, tysA, tyA, Ty.enc, Ty.encs])
      | (refine ⟨fun h => ?_, fun h => ?_⟩ <;> first | (cases h; done) | (simp -implicitDefEqProofs only [h]; done) | (try simp -implicitDefEqProofs only [h]))
      | fail))
    refine ih (m / 10, _) ⟨by simp only; omega, ?_⟩ (by simp only; omega)
    simp only
    rw [hs, preD_step h0]; simp
  · have hd : decide ((0 : Int) < (m : Int)) = false := by simp; omega
    (repeat' (first
      | refine Run.seq ?_
      | refine Run.skip ?_
      | refine Run.block ?_
      | refine Run.blk ?_
      | refine Run.scope ?_
      | refine Run.scp ?_
      | (refine Run.exit rfl ?_)
      | (refine Run.reg mixed ?_; simp -implicitDefEqProofs only [hd, rs_r6_number, Bool.not_eq_true', Bool.not_eq_false', go_sem, eq_self, Nat.reduceEqDiff, Nat.reduceBEq, Nat.reduceAdd, Nat.reduceLeDiff, reduceIte, reduceCtorEq, tysA, tyA, Ty.enc, Ty.encs])
      | (refine Run.condM ?_; simp -implicitDefEqProofs only [hd, rs_r6_number, Bool.not_eq_true', Bool.not_eq_false', go_sem, eq_self, Nat.reduceEqDiff, Nat.reduceBEq, Nat.reduceAdd, Nat.reduceLeDiff, reduceIte, reduceCtorEq, tysA, tyA, Ty.enc, Ty.encs])
      | (refine Run.retP g_r6_number (Heap.le_refl _) ?_; simp -implicitDefEqProofs only [rs_r6_number, hd, go_sem, eq_self, Nat.reduceEqDiff, Nat.reduceBEq, Nat.reduceAdd, Nat.reduceLeDiff, reduceIte, reduceCtorEq, tysA, tyA, Ty.enc, Ty.encs])
      | (refine xo_gs rfl (fun h => ?_) (fun h => ?_) <;> first | (cases h; done) | simp -implicitDefEqProofs only [hd, rs_r6_number, Bool.not_eq_true', Bool.not_eq_false', go_sem, eq_self, Nat.reduceEqDiff, Nat.reduceBEq, Nat.reduceAdd, Nat.reduceLeDiff, reduceIte, reduceCtorEq, tysA, tyA, Ty.enc, Ty.encs])
      | (refine ⟨fun h => ?_, fun h => ?_⟩ <;> first | (cases h; done) | (simp -implicitDefEqProofs only [h]; done) | (try simp -implicitDefEqProofs only [h]))
      | fail))
    have : m = 0 := by omega
    subst this
    simpa [preD] using hs.symm


theorem number6_ok (n : Int) (σ : Heap) (h0 : 0 ≤ n) (h1 : n ≤ 1000000000000) : ACalls Tryd.prog 81 [.d (.int .i64 n)] σ (fun v σ' => v = .d (.str (Lib.itoa n)) ∧ σ' = σ) := by
  obtain ⟨m, rfl⟩ : ∃ m : Nat, n = m := ⟨n.toNat, by omega⟩
  rw [itoa_nat h0, Int.toNat_natCast]
  exact r6_number_ok m σ (by omega)

def sepB : List UInt8 := [44, 32]
def nameOf (data : List Dat) (n : Int) : List UInt8 := match data[n.toNat]? with | some d => d.name | none => []
/-- The text of a node, out of the texts of its arguments. -/
def node (data : List Dat) (k n : Int) (args : List (List UInt8)) : List UInt8 :=
  if k = 1 then [105, 110, 116] else if k = 2 then [98, 111, 111, 108] else if k = 3 then [117, 110, 105, 116]
  else if k = 4 then 97 :: Lib.itoa n
  else if k = 5 then (if args = [] then nameOf data n else nameOf data n ++ [40] ++ Lib.join args sepB ++ [41])
  else if k = 7 then [97, 114, 114, 97, 121, 40] ++ Lib.join args sepB ++ [41]
  else if k = 8 then [114, 101, 102, 40] ++ Lib.join args sepB ++ [41]
  else if k = 9 then [102, 110, 40] ++ Lib.join (args.take (args.length - 1)) sepB ++ [41, 32, 45, 62, 32] ++ (args[args.length - 1]?).getD []
  else [40] ++ Lib.join args sepB ++ [41]
mutual
def txT (data : List Dat) : Ty → List UInt8
  | .mk k n l => node data k n (txs data l)
def txs (data : List Dat) : List Ty → List (List UInt8)
  | [] => []
  | t :: l => txT data t :: txs data l
end
theorem txs_map (data : List Dat) : ∀ l : List Ty, txs data l = l.map (txT data)
  | [] => rfl
  | t :: l => by simp [txs, txs_map data l]

theorem join_snoc (x : List UInt8) : ∀ (l : List (List UInt8)), Lib.join (l ++ [x]) sepB = if l = [] then x else Lib.join l sepB ++ sepB ++ x
  | [] => by simp [Lib.join_one]
  | y :: l => by
    simp only [List.cons_append, Lib.join_cons, Lib.joinTail, List.map_append, List.flatten_append, reduceCtorEq, if_false]
    simp
def sumLen (l : List (List UInt8)) : Nat := (l.map fun s => s.length + 2).sum
theorem sumLen_snoc (l : List (List UInt8)) (x : List UInt8) : sumLen (l ++ [x]) = sumLen l + (x.length + 2) := by simp [sumLen]
theorem join_len : ∀ l : List (List UInt8), (Lib.join l sepB).length ≤ sumLen l
  | [] => by simp [Lib.join_nil]
  | x :: l => by
    rw [Lib.join_cons, List.length_append]
    have : (Lib.joinTail sepB l).length = sumLen l := by
      unfold Lib.joinTail sumLen
      induction l with
      | nil => rfl
      | cons y l ih =>
        simp only [List.map_cons, List.flatten_cons, List.length_append, List.sum_cons]
        rw [ih]
        simp [sepB]; omega
    rw [this]
    simp only [sumLen, List.map_cons, List.sum_cons]; omega
theorem sumLen_take (l : List (List UInt8)) (i : Nat) : sumLen (l.take i) ≤ sumLen l := by
  have : sumLen l = sumLen (l.take i) + sumLen (l.drop i) := by
    unfold sumLen
    rw [← List.sum_append, ← List.map_append, List.take_append_drop]
  omega
theorem sumLen_get {l : List (List UInt8)} {i : Nat} {x : List UInt8} (h : l[i]? = some x) : sumLen (l.take i) + x.length + 2 ≤ sumLen l := by
  have h1 := sumLen_take l (i + 1)
  rw [List.take_add_one, h] at h1
  simp only [Option.toList_some] at h1
  rw [sumLen_snoc] at h1; omega

theorem name_len {data : List Dat} (h : DsOk data) (n : Int) : (nameOf data n).length ≤ 40 := by
  unfold nameOf
  split
  · rename_i d hd
    exact h.2 d (List.mem_of_getElem? hd)
  · simp
theorem node_len {data : List Dat} (h : DsOk data) (k n : Int) (hn : k = 4 → 0 ≤ n ∧ n ≤ 1000) (args : List (List UInt8)) : (node data k n args).length + 2 ≤ 60 + sumLen args := by
  have h1 := name_len h n
  have h2 := join_len args
  have h3 := join_len (args.take (args.length - 1))
  unfold node
  repeat' split
  · simp; omega
  · simp; omega
  · simp; omega
  · rename_i h4
    have := hn h4
    have := itoa_len (n := n) ⟨by omega, by omega⟩
    simp only [List.length_cons]; omega
  · omega
  · simp only [List.length_append, List.length_cons, List.length_nil]; omega
  · simp only [List.length_append, List.length_cons, List.length_nil]; omega
  · simp only [List.length_append, List.length_cons, List.length_nil]; omega
  · cases hl : args[args.length - 1]? with
    | none =>
      have := sumLen_take args (args.length - 1)
      simp only [Option.getD_none, List.length_append, List.length_cons, List.length_nil]; omega
    | some x =>
      have := sumLen_get hl
      simp only [Option.getD_some, List.length_append, List.length_cons, List.length_nil]; omega
  · simp only [List.length_append, List.length_cons, List.length_nil]; omega

theorem valid_var4 {data : List Dat} {k n : Int} {l : List Ty} (h : validT data 101 (.mk k n l) = true) : k = 4 → 0 ≤ n ∧ n ≤ 1000 := by
  intro h4
  subst h4
  simp only [validT, Bool.and_eq_true] at h
  have := h.1
  simp [shapeOk] at this
  omega
mutual
theorem txT_len {data : List Dat} (hd : DsOk data) : ∀ {t : Ty}, validT data 101 t = true → (txT data t).length + 2 ≤ 60 * t.size
  | .mk k n l, h => by
    have h1 := node_len hd k n (valid_var4 h) (txs data l)
    have h2 : validTs data 101 l = true := by simp only [validT, Bool.and_eq_true] at h; exact h.2
    have h3 := txs_len hd h2
    simp only [txT, Ty.size]; omega
theorem txs_len {data : List Dat} (hd : DsOk data) : ∀ {l : List Ty}, validTs data 101 l = true → sumLen (txs data l) ≤ 60 * Ty.sizes l
  | [], _ => by simp [txs, sumLen, Ty.sizes]
  | t :: l, h => by
    simp only [validTs, Bool.and_eq_true] at h
    have h1 := txT_len hd h.1
    have h2 := txs_len hd h.2
    simp only [txs, Ty.sizes, sumLen, List.map_cons, List.sum_cons] at h2 ⊢
    omega
end
theorem txs_take (data : List Dat) (l : List Ty) (i : Nat) : (txs data l).take i = txs data (l.take i) := by
  rw [txs_map, txs_map, List.map_take]
theorem txs_length (data : List Dat) (l : List Ty) : (txs data l).length = l.length := by rw [txs_map, List.length_map]
theorem txs_snoc (data : List Dat) (l : List Ty) (t : Ty) : txs data (l ++ [t]) = txs data l ++ [txT data t] := by
  rw [txs_map, txs_map, List.map_append]; rfl

theorem OwnS.form {σ σ' : Heap} {e s : Nat} {rows : List (List DV)} {v : AV} (h : OwnS σ e s rows v σ') (hr : rows ≠ []) : ∃ t, v = .own t e s rows := by
  obtain ⟨σ1, ha, _⟩ := h.app
  unfold appA at ha
  split at ha
  · cases ha; exact absurd rfl hr
  · split at ha
    · rename_i hc
      cases ha
      obtain ⟨rfl, rfl, _⟩ := hc
      exact ⟨_, rfl⟩
    · cases ha
  · cases ha
theorem slsR_hi {rows : List (List DV)} {m : Nat} (h : m ≤ rows.length) : slsR rows none (some (.d (.int .i64 (m : Int)))) none 1 = some (.d (.sl (rows.take m))) := by
  simp [slsR, bndA, natA, h]
theorem str_row {l : List (List UInt8)} {i : Nat} {x : List UInt8} (h : l[i]? = some x) : (l.map sRow)[i]? = some [.str x] := by
  rw [List.getElem?_map, h]; rfl


set_option maxHeartbeats 4000000 in
theorem typing_text_ok (data : List Dat) (hd : DsOk data) : ∀ (n : Nat) (t : Ty) (σ : Heap), t.size ≤ n → n ≤ 1000 → validT data 101 t = true → σ.gt powB = some powA →
    ACalls Tryd.prog 47 [dsA data, tyA t] σ (fun v σ' => v = .d (.str (txT data t)) ∧ σ' = σ) := by
  intro n
  induction n using Nat.strongRecOn with
  | _ n ih =>
    intro t σ hn hm hval hgt
    obtain ⟨kd, nm, l⟩ := t
    have hsz : (Ty.mk kd nm l).size = 1 + Ty.sizes l := rfl
    have hll := ty_len l
    have hvl : validTs data 101 l = true ∧ shapeOk data 101 kd nm l.length = true := by
      simp only [validT, Bool.and_eq_true] at hval; exact ⟨hval.2, hval.1⟩
    have hsl := txs_len hd hvl.1
    have hjl := join_len (txs data l)
    have hv4 := valid_var4 hval
    refine i_typing_text (by simp) ?_
    rw [argF_2, dsA]
    (repeat' (first
      | refine Run.seq ?_
      | refine Run.skip ?_
      | refine Run.block ?_
      | refine Run.blk ?_
      | refine Run.scope ?_
      | refine Run.scp ?_
      | (refine Run.exit rfl ?_)
      | (refine Run.reg mixed ?_; simp -implicitDefEqProofs only [encs_len, rs_typing_text, Bool.not_eq_true', Bool.not_eq_false', go_sem, eq_self, Nat.reduceEqDiff, Nat.reduceBEq, Nat.reduceAdd, Nat.reduceLeDiff, reduceIte, reduceCtorEq, tysA, tyA, Ty.enc, Ty.encs])
      | (refine Run.condM ?_; simp -implicitDefEqProofs only [encs_len, rs_typing_text, Bool.not_eq_true', Bool.not_eq_false', go_sem, eq_self, Nat.reduceEqDiff, Nat.reduceBEq, Nat.reduceAdd, Nat.reduceLeDiff, reduceIte, reduceCtorEq, tysA, tyA, Ty.enc, Ty.encs])
      | (refine xo_gs rfl (fun h => ?_) (fun h => ?_) <;> first | (cases h; done) | simp -implicitDefEqProofs only [encs_len, rs_typing_text, Bool.not_eq_true', Bool.not_eq_false', go_sem, eq_self, Nat.reduceEqDiff, Nat.reduceBEq, Nat.reduceAdd, Nat.reduceLeDiff, reduceIte, reduceCtorEq, tysA, tyA, Ty.enc, Ty.encs])
      | (refine ⟨fun h => ?_, fun h => ?_⟩ <;> first | (cases h; done) | (simp -implicitDefEqProofs only [h]; done) | (try simp -implicitDefEqProofs only [h]))
      | fail))
    refine Run.loopA ?_
    refine Run.loopI ((fun (a0 : AV) (a3 : AV) (a11 : AV) (a12 : AV) => fun (y : Nat × AV × Heap) => put 0 a0 (put 3 a3 (put 5 (y.2.1) (put 11 a11 (put 12 a12 (put 13 (.d (.int .i64 y.1)) U)))))) _ _ _ _) (fun _ => putL 3 [.d (.int .i64 kd), .d (.int .i64 nm), .d (.sl (Ty.encs l))] E) (fun y => y.2.2)
      (fun y => y.1 ≤ l.length ∧ OwnS σ 9 1 ((txs data (l.take y.1)).map sRow) y.2.1 y.2.2) (fun y => l.length - y.1) ?_ (0, .nils, σ) ⟨by simp, OwnS.nil _ _ _⟩
    rintro ⟨i, v, σ1⟩ ⟨hi, ho⟩ ih2
    simp only at hi ho
    have hgt1 : σ1.gt powB = some powA := by rw [← ho.le.gt]; exact hgt
    have htl : (txs data (l.take i)).length = i := by rw [txs_length]; simp; omega
    by_cases hlt : i < l.length
    · obtain ⟨t', ht⟩ := ex_at hlt
      have hs1 : Ty.sizes (l.take (i + 1)) = Ty.sizes (l.take i) + t'.size := by rw [take_snoc ht, sizes_snoc]
      have hs2 := sizes_take l (i + 1)
      have hx1 : txs data (l.take (i + 1)) = txs data (l.take i) ++ [txT data t'] := by rw [take_snoc ht, txs_snoc]
      have hvt := validTs_mem hvl.1 (List.mem_of_getElem? ht)
      obtain ⟨kd', nm', al⟩ := t'
      have he := encs_at ht
      have hw1 := wrap_succ (show i + 1 ≤ 9000000000000000000 by omega)
      have hcall := ih ((Ty.mk kd' nm' al).size) (by omega) (.mk kd' nm' al) σ1 (Nat.le_refl _) (by omega) hvt hgt1
      (repeat' (first
      | refine Run.seq ?_
      | refine Run.skip ?_
      | refine Run.block ?_
      | refine Run.blk ?_
      | refine Run.scope ?_
      | refine Run.scp ?_
      | (refine Run.exit rfl ?_)
      | (refine Run.reg mixed ?_; simp -implicitDefEqProofs only [lt_t hlt, he, hw1, ho.noLp, ho.cell, ho.cells, ho.lpOf, rs_typing_text, Bool.not_eq_true', Bool.not_eq_false', go_sem, eq_self, Nat.reduceEqDiff, Nat.reduceBEq, Nat.reduceAdd, Nat.reduceLeDiff, reduceIte, reduceCtorEq, tysA, tyA, Ty.enc, Ty.encs])
      | (refine Run.condM ?_; simp -implicitDefEqProofs only [lt_t hlt, he, hw1, ho.noLp, ho.cell, ho.cells, ho.lpOf, rs_typing_text, Bool.not_eq_true', Bool.not_eq_false', go_sem, eq_self, Nat.reduceEqDiff, Nat.reduceBEq, Nat.reduceAdd, Nat.reduceLeDiff, reduceIte, reduceCtorEq, tysA, tyA, Ty.enc, Ty.encs])
      | (refine XApp.own ho rfl (by simp) (by simp; omega) (by decide) (fun v2 σ2 ho2 hbk => ?_); (try simp -implicitDefEqProofs only [lt_t hlt, he, hw1, ho.noLp, ho.cell, ho.cells, ho.lpOf, rs_typing_text, Bool.not_eq_true', Bool.not_eq_false', go_sem, eq_self, Nat.reduceEqDiff, Nat.reduceBEq, Nat.reduceAdd, Nat.reduceLeDiff, reduceIte, reduceCtorEq, tysA, tyA, Ty.enc, Ty.encs]))
      | (refine XCall.det (hcall) ?_; simp -implicitDefEqProofs only [lt_t hlt, he, hw1, ho.noLp, ho.cell, ho.cells, ho.lpOf, rs_typing_text, Bool.not_eq_true', Bool.not_eq_false', go_sem, eq_self, Nat.reduceEqDiff, Nat.reduceBEq, Nat.reduceAdd, Nat.reduceLeDiff, reduceIte, reduceCtorEq, tysA, tyA, Ty.enc, Ty.encs])
      | (refine xo_gs rfl (fun h => ?_) (fun h => ?_) <;> first | (cases h; done) | simp -implicitDefEqProofs only [lt_t hlt, he, hw1, ho.noLp, ho.cell, ho.cells, ho.lpOf, rs_typing_text, Bool.not_eq_true', Bool.not_eq_false', go_sem, eq_self, Nat.reduceEqDiff, Nat.reduceBEq, Nat.reduceAdd, Nat.reduceLeDiff, reduceIte, reduceCtorEq, tysA, tyA, Ty.enc, Ty.encs])
      | (refine ⟨fun h => ?_, fun h => ?_⟩ <;> first | (cases h; done) | (simp -implicitDefEqProofs only [h]; done) | (try simp -implicitDefEqProofs only [h]))
      | fail))
      refine ih2 (i + 1, v2, σ2) ⟨by simp only; omega, ?_⟩ (by simp only; omega)
      simp only
      rw [hx1, List.map_append]
      exact ho2
    have hil : i = l.length := by omega
    subst hil
    rw [List.take_length] at ho
    have hJ := Join_plain (sep := sepB) (σ := σ1) ho.plain (by rw [txs_length]; omega) (by omega)
    have hnoLp : [v, AV.d (.str sepB)].all AV.noLp = true := by simp only [List.all_cons, List.all_nil, ho.noLp, noLp_d, Bool.and_self]
    have hlen := ho.len
    rw [List.length_map, txs_length] at hlen
    have hnode : txT data (.mk kd nm l) = node data kd nm (txs data l) := rfl
    unfold sepB at hJ hnoLp hjl

    by_cases k1 : kd = 1
    · subst k1
      have e1 : ((1 : Int) == 1) = true := by decide
      have e2 : ((1 : Int) == 2) = false := by decide
      have e3 : ((1 : Int) == 3) = false := by decide
      have e4 : ((1 : Int) == 4) = false := by decide
      have e5 : ((1 : Int) == 5) = false := by decide
      have e6 : ((1 : Int) == 6) = false := by decide
      have e7 : ((1 : Int) == 7) = false := by decide
      have e8 : ((1 : Int) == 8) = false := by decide
      have e9 : ((1 : Int) == 9) = false := by decide
      (repeat' (first
      | refine Run.seq ?_
      | refine Run.skip ?_
      | refine Run.block ?_
      | refine Run.blk ?_
      | refine Run.scope ?_
      | refine Run.scp ?_
      | (refine Run.exit rfl ?_)
      | (refine Run.reg mixed ?_; simp -implicitDefEqProofs only [lt_f hlt, ho.noLp, ho.cell, ho.cells, ho.lpOf, hlen, e1, e2, e3, e4, e5, e6, e7, e8, e9, rs_typing_text, Bool.not_eq_true', Bool.not_eq_false', go_sem, eq_self, Nat.reduceEqDiff, Nat.reduceBEq, Nat.reduceAdd, Nat.reduceLeDiff, reduceIte, reduceCtorEq, tysA, tyA, Ty.enc, Ty.encs])
      | (refine Run.condM ?_; simp -implicitDefEqProofs only [lt_f hlt, ho.noLp, ho.cell, ho.cells, ho.lpOf, hlen, e1, e2, e3, e4, e5, e6, e7, e8, e9, rs_typing_text, Bool.not_eq_true', Bool.not_eq_false', go_sem, eq_self, Nat.reduceEqDiff, Nat.reduceBEq, Nat.reduceAdd, Nat.reduceLeDiff, reduceIte, reduceCtorEq, tysA, tyA, Ty.enc, Ty.encs])
      | (refine XCall.det hJ ?_ hnoLp; (try simp -implicitDefEqProofs only [lt_f hlt, ho.noLp, ho.cell, ho.cells, ho.lpOf, hlen, e1, e2, e3, e4, e5, e6, e7, e8, e9, rs_typing_text, Bool.not_eq_true', Bool.not_eq_false', go_sem, eq_self, Nat.reduceEqDiff, Nat.reduceBEq, Nat.reduceAdd, Nat.reduceLeDiff, reduceIte, reduceCtorEq, tysA, tyA, Ty.enc, Ty.encs]))
      | (refine XPv.strAdd (by (try simp only [List.length_append, List.length_cons, List.length_nil]); omega) ?_; (try simp -implicitDefEqProofs only [lt_f hlt, ho.noLp, ho.cell, ho.cells, ho.lpOf, hlen, e1, e2, e3, e4, e5, e6, e7, e8, e9, rs_typing_text, Bool.not_eq_true', Bool.not_eq_false', go_sem, eq_self, Nat.reduceEqDiff, Nat.reduceBEq, Nat.reduceAdd, Nat.reduceLeDiff, reduceIte, reduceCtorEq, tysA, tyA, Ty.enc, Ty.encs]))
      | (refine Run.retP g_typing_text (σ2 := σ) ho.le ?_; (try simp -implicitDefEqProofs only [lt_f hlt, ho.noLp, ho.cell, ho.cells, ho.lpOf, hlen, e1, e2, e3, e4, e5, e6, e7, e8, e9, rs_typing_text, Bool.not_eq_true', Bool.not_eq_false', go_sem, eq_self, Nat.reduceEqDiff, Nat.reduceBEq, Nat.reduceAdd, Nat.reduceLeDiff, reduceIte, reduceCtorEq, tysA, tyA, Ty.enc, Ty.encs]))
      | (refine xo_gs rfl (fun h => ?_) (fun h => ?_) <;> first | (cases h; done) | simp -implicitDefEqProofs only [lt_f hlt, ho.noLp, ho.cell, ho.cells, ho.lpOf, hlen, e1, e2, e3, e4, e5, e6, e7, e8, e9, rs_typing_text, Bool.not_eq_true', Bool.not_eq_false', go_sem, eq_self, Nat.reduceEqDiff, Nat.reduceBEq, Nat.reduceAdd, Nat.reduceLeDiff, reduceIte, reduceCtorEq, tysA, tyA, Ty.enc, Ty.encs])
      | (refine ⟨fun h => ?_, fun h => ?_⟩ <;> first | (cases h; done) | (simp -implicitDefEqProofs only [h]; done) | (try simp -implicitDefEqProofs only [h]))
      | fail))
      rw [hnode]
      simp [node]
    by_cases k2 : kd = 2
    · subst k2
      have e1 : ((2 : Int) == 1) = false := by decide
      have e2 : ((2 : Int) == 2) = true := by decide
      have e3 : ((2 : Int) == 3) = false := by decide
      have e4 : ((2 : Int) == 4) = false := by decide
      have e5 : ((2 : Int) == 5) = false := by decide
      have e6 : ((2 : Int) == 6) = false := by decide
      have e7 : ((2 : Int) == 7) = false := by decide
      have e8 : ((2 : Int) == 8) = false := by decide
      have e9 : ((2 : Int) == 9) = false := by decide
      (repeat' (first
      | refine Run.seq ?_
      | refine Run.skip ?_
      | refine Run.block ?_
      | refine Run.blk ?_
      | refine Run.scope ?_
      | refine Run.scp ?_
      | (refine Run.exit rfl ?_)
      | (refine Run.reg mixed ?_; simp -implicitDefEqProofs only [lt_f hlt, ho.noLp, ho.cell, ho.cells, ho.lpOf, hlen, e1, e2, e3, e4, e5, e6, e7, e8, e9, rs_typing_text, Bool.not_eq_true', Bool.not_eq_false', go_sem, eq_self, Nat.reduceEqDiff, Nat.reduceBEq, Nat.reduceAdd, Nat.reduceLeDiff, reduceIte, reduceCtorEq, tysA, tyA, Ty.enc, Ty.encs])
      | (refine Run.condM ?_; simp -implicitDefEqProofs only [lt_f hlt, ho.noLp, ho.cell, ho.cells, ho.lpOf, hlen, e1, e2, e3, e4, e5, e6, e7, e8, e9, rs_typing_text, Bool.not_eq_true', Bool.not_eq_false', go_sem, eq_self, Nat.reduceEqDiff, Nat.reduceBEq, Nat.reduceAdd, Nat.reduceLeDiff, reduceIte, reduceCtorEq, tysA, tyA, Ty.enc, Ty.encs])
      | (refine XCall.det hJ ?_ hnoLp; (try simp -implicitDefEqProofs only [lt_f hlt, ho.noLp, ho.cell, ho.cells, ho.lpOf, hlen, e1, e2, e3, e4, e5, e6, e7, e8, e9, rs_typing_text, Bool.not_eq_true', Bool.not_eq_false', go_sem, eq_self, Nat.reduceEqDiff, Nat.reduceBEq, Nat.reduceAdd, Nat.reduceLeDiff, reduceIte, reduceCtorEq, tysA, tyA, Ty.enc, Ty.encs]))
      | (refine XPv.strAdd (by (try simp only [List.length_append, List.length_cons, List.length_nil]); omega) ?_; (try simp -implicitDefEqProofs only [lt_f hlt, ho.noLp, ho.cell, ho.cells, ho.lpOf, hlen, e1, e2, e3, e4, e5, e6, e7, e8, e9, rs_typing_text, Bool.not_eq_true', Bool.not_eq_false', go_sem, eq_self, Nat.reduceEqDiff, Nat.reduceBEq, Nat.reduceAdd, Nat.reduceLeDiff, reduceIte, reduceCtorEq, tysA, tyA, Ty.enc, Ty.encs]))
      | (refine Run.retP g_typing_text (σ2 := σ) ho.le ?_; (try simp -implicitDefEqProofs only [lt_f hlt, ho.noLp, ho.cell, ho.cells, ho.lpOf, hlen, e1, e2, e3, e4, e5, e6, e7, e8, e9, rs_typing_text, Bool.not_eq_true', Bool.not_eq_false', go_sem, eq_self, Nat.reduceEqDiff, Nat.reduceBEq, Nat.reduceAdd, Nat.reduceLeDiff, reduceIte, reduceCtorEq, tysA, tyA, Ty.enc, Ty.encs]))
      | (refine xo_gs rfl (fun h => ?_) (fun h => ?_) <;> first | (cases h; done) | simp -implicitDefEqProofs only [lt_f hlt, ho.noLp, ho.cell, ho.cells, ho.lpOf, hlen, e1, e2, e3, e4, e5, e6, e7, e8, e9, rs_typing_text, Bool.not_eq_true', Bool.not_eq_false', go_sem, eq_self, Nat.reduceEqDiff, Nat.reduceBEq, Nat.reduceAdd, Nat.reduceLeDiff, reduceIte, reduceCtorEq, tysA, tyA, Ty.enc, Ty.encs])
      | (refine ⟨fun h => ?_, fun h => ?_⟩ <;> first | (cases h; done) | (simp -implicitDefEqProofs only [h]; done) | (try simp -implicitDefEqProofs only [h]))
      | fail))
      rw [hnode]
      simp [node]
    by_cases k3 : kd = 3
    · subst k3
      have e1 : ((3 : Int) == 1) = false := by decide
      have e2 : ((3 : Int) == 2) = false := by decide
      have e3 : ((3 : Int) == 3) = true := by decide
      have e4 : ((3 : Int) == 4) = false := by decide
      have e5 : ((3 : Int) == 5) = false := by decide
      have e6 : ((3 : Int) == 6) = false := by decide
      have e7 : ((3 : Int) == 7) = false := by decide
      have e8 : ((3 : Int) == 8) = false := by decide
      have e9 : ((3 : Int) == 9) = false := by decide
      (repeat' (first
      | refine Run.seq ?_
      | refine Run.skip ?_
      | refine Run.block ?_
      | refine Run.blk ?_
      | refine Run.scope ?_
      | refine Run.scp ?_
      | (refine Run.exit rfl ?_)
      | (refine Run.reg mixed ?_; simp -implicitDefEqProofs only [lt_f hlt, ho.noLp, ho.cell, ho.cells, ho.lpOf, hlen, e1, e2, e3, e4, e5, e6, e7, e8, e9, rs_typing_text, Bool.not_eq_true', Bool.not_eq_false', go_sem, eq_self, Nat.reduceEqDiff, Nat.reduceBEq, Nat.reduceAdd, Nat.reduceLeDiff, reduceIte, reduceCtorEq, tysA, tyA, Ty.enc, Ty.encs])
      | (refine Run.condM ?_; simp -implicitDefEqProofs only [lt_f hlt, ho.noLp, ho.cell, ho.cells, ho.lpOf, hlen, e1, e2, e3, e4, e5, e6, e7, e8, e9, rs_typing_text, Bool.not_eq_true', Bool.not_eq_false', go_sem, eq_self, Nat.reduceEqDiff, Nat.reduceBEq, Nat.reduceAdd, Nat.reduceLeDiff, reduceIte, reduceCtorEq, tysA, tyA, Ty.enc, Ty.encs])
      | (refine XCall.det hJ ?_ hnoLp; (try simp -implicitDefEqProofs only [lt_f hlt, ho.noLp, ho.cell, ho.cells, ho.lpOf, hlen, e1, e2, e3, e4, e5, e6, e7, e8, e9, rs_typing_text, Bool.not_eq_true', Bool.not_eq_false', go_sem, eq_self, Nat.reduceEqDiff, Nat.reduceBEq, Nat.reduceAdd, Nat.reduceLeDiff, reduceIte, reduceCtorEq, tysA, tyA, Ty.enc, Ty.encs]))
      | (refine XPv.strAdd (by (try simp only [List.length_append, List.length_cons, List.length_nil]); omega) ?_; (try simp -implicitDefEqProofs only [lt_f hlt, ho.noLp, ho.cell, ho.cells, ho.lpOf, hlen, e1, e2, e3, e4, e5, e6, e7, e8, e9, rs_typing_text, Bool.not_eq_true', Bool.not_eq_false', go_sem, eq_self, Nat.reduceEqDiff, Nat.reduceBEq, Nat.reduceAdd, Nat.reduceLeDiff, reduceIte, reduceCtorEq, tysA, tyA, Ty.enc, Ty.encs]))
      | (refine Run.retP g_typing_text (σ2 := σ) ho.le ?_; (try simp -implicitDefEqProofs only [lt_f hlt, ho.noLp, ho.cell, ho.cells, ho.lpOf, hlen, e1, e2, e3, e4, e5, e6, e7, e8, e9, rs_typing_text, Bool.not_eq_true', Bool.not_eq_false', go_sem, eq_self, Nat.reduceEqDiff, Nat.reduceBEq, Nat.reduceAdd, Nat.reduceLeDiff, reduceIte, reduceCtorEq, tysA, tyA, Ty.enc, Ty.encs]))
      | (refine xo_gs rfl (fun h => ?_) (fun h => ?_) <;> first | (cases h; done) | simp -implicitDefEqProofs only [lt_f hlt, ho.noLp, ho.cell, ho.cells, ho.lpOf, hlen, e1, e2, e3, e4, e5, e6, e7, e8, e9, rs_typing_text, Bool.not_eq_true', Bool.not_eq_false', go_sem, eq_self, Nat.reduceEqDiff, Nat.reduceBEq, Nat.reduceAdd, Nat.reduceLeDiff, reduceIte, reduceCtorEq, tysA, tyA, Ty.enc, Ty.encs])
      | (refine ⟨fun h => ?_, fun h => ?_⟩ <;> first | (cases h; done) | (simp -implicitDefEqProofs only [h]; done) | (try simp -implicitDefEqProofs only [h]))
      | fail))
      rw [hnode]
      simp [node]
    by_cases k4 : kd = 4
    · subst k4
      have e1 : ((4 : Int) == 1) = false := by decide
      have e2 : ((4 : Int) == 2) = false := by decide
      have e3 : ((4 : Int) == 3) = false := by decide
      have e4 : ((4 : Int) == 4) = true := by decide
      have e5 : ((4 : Int) == 5) = false := by decide
      have e6 : ((4 : Int) == 6) = false := by decide
      have e7 : ((4 : Int) == 7) = false := by decide
      have e8 : ((4 : Int) == 8) = false := by decide
      have e9 : ((4 : Int) == 9) = false := by decide
      have hnn := hv4 rfl
      have hit := itoa_len (n := nm) ⟨by omega, by omega⟩
      (repeat' (first
      | refine Run.seq ?_
      | refine Run.skip ?_
      | refine Run.block ?_
      | refine Run.blk ?_
      | refine Run.scope ?_
      | refine Run.scp ?_
      | (refine Run.exit rfl ?_)
      | (refine Run.reg mixed ?_; simp -implicitDefEqProofs only [lt_f hlt, ho.noLp, ho.cell, ho.cells, ho.lpOf, hlen, e1, e2, e3, e4, e5, e6, e7, e8, e9, rs_typing_text, Bool.not_eq_true', Bool.not_eq_false', go_sem, eq_self, Nat.reduceEqDiff, Nat.reduceBEq, Nat.reduceAdd, Nat.reduceLeDiff, reduceIte, reduceCtorEq, tysA, tyA, Ty.enc, Ty.encs])
      | (refine Run.condM ?_; simp -implicitDefEqProofs only [lt_f hlt, ho.noLp, ho.cell, ho.cells, ho.lpOf, hlen, e1, e2, e3, e4, e5, e6, e7, e8, e9, rs_typing_text, Bool.not_eq_true', Bool.not_eq_false', go_sem, eq_self, Nat.reduceEqDiff, Nat.reduceBEq, Nat.reduceAdd, Nat.reduceLeDiff, reduceIte, reduceCtorEq, tysA, tyA, Ty.enc, Ty.encs])
      | (refine XCall.det hJ ?_ hnoLp; (try simp -implicitDefEqProofs only [lt_f hlt, ho.noLp, ho.cell, ho.cells, ho.lpOf, hlen, e1, e2, e3, e4, e5, e6, e7, e8, e9, rs_typing_text, Bool.not_eq_true', Bool.not_eq_false', go_sem, eq_self, Nat.reduceEqDiff, Nat.reduceBEq, Nat.reduceAdd, Nat.reduceLeDiff, reduceIte, reduceCtorEq, tysA, tyA, Ty.enc, Ty.encs]))
      | (refine XPv.strAdd (by (try simp only [List.length_append, List.length_cons, List.length_nil]); omega) ?_; (try simp -implicitDefEqProofs only [lt_f hlt, ho.noLp, ho.cell, ho.cells, ho.lpOf, hlen, e1, e2, e3, e4, e5, e6, e7, e8, e9, rs_typing_text, Bool.not_eq_true', Bool.not_eq_false', go_sem, eq_self, Nat.reduceEqDiff, Nat.reduceBEq, Nat.reduceAdd, Nat.reduceLeDiff, reduceIte, reduceCtorEq, tysA, tyA, Ty.enc, Ty.encs]))
      | (refine Run.retP g_typing_text (σ2 := σ) ho.le ?_; (try simp -implicitDefEqProofs only [lt_f hlt, ho.noLp, ho.cell, ho.cells, ho.lpOf, hlen, e1, e2, e3, e4, e5, e6, e7, e8, e9, rs_typing_text, Bool.not_eq_true', Bool.not_eq_false', go_sem, eq_self, Nat.reduceEqDiff, Nat.reduceBEq, Nat.reduceAdd, Nat.reduceLeDiff, reduceIte, reduceCtorEq, tysA, tyA, Ty.enc, Ty.encs]))
      | (refine XCall.det (strconv_Itoa_ok nm _ hgt1) ?_; simp -implicitDefEqProofs only [lt_f hlt, ho.noLp, ho.cell, ho.cells, ho.lpOf, hlen, e1, e2, e3, e4, e5, e6, e7, e8, e9, rs_typing_text, Bool.not_eq_true', Bool.not_eq_false', go_sem, eq_self, Nat.reduceEqDiff, Nat.reduceBEq, Nat.reduceAdd, Nat.reduceLeDiff, reduceIte, reduceCtorEq, tysA, tyA, Ty.enc, Ty.encs])
      | (refine xo_gs rfl (fun h => ?_) (fun h => ?_) <;> first | (cases h; done) | simp -implicitDefEqProofs only [lt_f hlt, ho.noLp, ho.cell, ho.cells, ho.lpOf, hlen, e1, e2, e3, e4, e5, e6, e7, e8, e9, rs_typing_text, Bool.not_eq_true', Bool.not_eq_false', go_sem, eq_self, Nat.reduceEqDiff, Nat.reduceBEq, Nat.reduceAdd, Nat.reduceLeDiff, reduceIte, reduceCtorEq, tysA, tyA, Ty.enc, Ty.encs])
      | (refine ⟨fun h => ?_, fun h => ?_⟩ <;> first | (cases h; done) | (simp -implicitDefEqProofs only [h]; done) | (try simp -implicitDefEqProofs only [h]))
      | fail))
      rw [hnode]
      simp [node]
    by_cases k7 : kd = 7
    · subst k7
      have e1 : ((7 : Int) == 1) = false := by decide
      have e2 : ((7 : Int) == 2) = false := by decide
      have e3 : ((7 : Int) == 3) = false := by decide
      have e4 : ((7 : Int) == 4) = false := by decide
      have e5 : ((7 : Int) == 5) = false := by decide
      have e6 : ((7 : Int) == 6) = false := by decide
      have e7 : ((7 : Int) == 7) = true := by decide
      have e8 : ((7 : Int) == 8) = false := by decide
      have e9 : ((7 : Int) == 9) = false := by decide
      (repeat' (first
      | refine Run.seq ?_
      | refine Run.skip ?_
      | refine Run.block ?_
      | refine Run.blk ?_
      | refine Run.scope ?_
      | refine Run.scp ?_
      | (refine Run.exit rfl ?_)
      | (refine Run.reg mixed ?_; simp -implicitDefEqProofs only [lt_f hlt, ho.noLp, ho.cell, ho.cells, ho.lpOf, hlen, e1, e2, e3, e4, e5, e6, e7, e8, e9, rs_typing_text, Bool.not_eq_true', Bool.not_eq_false', go_sem, eq_self, Nat.reduceEqDiff, Nat.reduceBEq, Nat.reduceAdd, Nat.reduceLeDiff, reduceIte, reduceCtorEq, tysA, tyA, Ty.enc, Ty.encs])
      | (refine Run.condM ?_; simp -implicitDefEqProofs only [lt_f hlt, ho.noLp, ho.cell, ho.cells, ho.lpOf, hlen, e1, e2, e3, e4, e5, e6, e7, e8, e9, rs_typing_text, Bool.not_eq_true', Bool.not_eq_false', go_sem, eq_self, Nat.reduceEqDiff, Nat.reduceBEq, Nat.reduceAdd, Nat.reduceLeDiff, reduceIte, reduceCtorEq, tysA, tyA, Ty.enc, Ty.encs])
      | (refine XCall.det hJ ?_ hnoLp; (try simp -implicitDefEqProofs only [lt_f hlt, ho.noLp, ho.cell, ho.cells, ho.lpOf, hlen, e1, e2, e3, e4, e5, e6, e7, e8, e9, rs_typing_text, Bool.not_eq_true', Bool.not_eq_false', go_sem, eq_self, Nat.reduceEqDiff, Nat.reduceBEq, Nat.reduceAdd, Nat.reduceLeDiff, reduceIte, reduceCtorEq, tysA, tyA, Ty.enc, Ty.encs]))
      | (refine XPv.strAdd (by (try simp only [List.length_append, List.length_cons, List.length_nil]); omega) ?_; (try simp -implicitDefEqProofs only [lt_f hlt, ho.noLp, ho.cell, ho.cells, ho.lpOf, hlen, e1, e2, e3, e4, e5, e6, e7, e8, e9, rs_typing_text, Bool.not_eq_true', Bool.not_eq_false', go_sem, eq_self, Nat.reduceEqDiff, Nat.reduceBEq, Nat.reduceAdd, Nat.reduceLeDiff, reduceIte, reduceCtorEq, tysA, tyA, Ty.enc, Ty.encs]))
      | (refine Run.retP g_typing_text (σ2 := σ) ho.le ?_; (try simp -implicitDefEqProofs only [lt_f hlt, ho.noLp, ho.cell, ho.cells, ho.lpOf, hlen, e1, e2, e3, e4, e5, e6, e7, e8, e9, rs_typing_text, Bool.not_eq_true', Bool.not_eq_false', go_sem, eq_self, Nat.reduceEqDiff, Nat.reduceBEq, Nat.reduceAdd, Nat.reduceLeDiff, reduceIte, reduceCtorEq, tysA, tyA, Ty.enc, Ty.encs]))
      | (refine xo_gs rfl (fun h => ?_) (fun h => ?_) <;> first | (cases h; done) | simp -implicitDefEqProofs only [lt_f hlt, ho.noLp, ho.cell, ho.cells, ho.lpOf, hlen, e1, e2, e3, e4, e5, e6, e7, e8, e9, rs_typing_text, Bool.not_eq_true', Bool.not_eq_false', go_sem, eq_self, Nat.reduceEqDiff, Nat.reduceBEq, Nat.reduceAdd, Nat.reduceLeDiff, reduceIte, reduceCtorEq, tysA, tyA, Ty.enc, Ty.encs])
      | (refine ⟨fun h => ?_, fun h => ?_⟩ <;> first | (cases h; done) | (simp -implicitDefEqProofs only [h]; done) | (try simp -implicitDefEqProofs only [h]))
      | fail))
      rw [hnode]
      simp [node, sepB]
    by_cases k8 : kd = 8
    · subst k8
      have e1 : ((8 : Int) == 1) = false := by decide
      have e2 : ((8 : Int) == 2) = false := by decide
      have e3 : ((8 : Int) == 3) = false := by decide
      have e4 : ((8 : Int) == 4) = false := by decide
      have e5 : ((8 : Int) == 5) = false := by decide
      have e6 : ((8 : Int) == 6) = false := by decide
      have e7 : ((8 : Int) == 7) = false := by decide
      have e8 : ((8 : Int) == 8) = true := by decide
      have e9 : ((8 : Int) == 9) = false := by decide
      (repeat' (first
      | refine Run.seq ?_
      | refine Run.skip ?_
      | refine Run.block ?_
      | refine Run.blk ?_
      | refine Run.scope ?_
      | refine Run.scp ?_
      | (refine Run.exit rfl ?_)
      | (refine Run.reg mixed ?_; simp -implicitDefEqProofs only [lt_f hlt, ho.noLp, ho.cell, ho.cells, ho.lpOf, hlen, e1, e2, e3, e4, e5, e6, e7, e8, e9, rs_typing_text, Bool.not_eq_true', Bool.not_eq_false', go_sem, eq_self, Nat.reduceEqDiff, Nat.reduceBEq, Nat.reduceAdd, Nat.reduceLeDiff, reduceIte, reduceCtorEq, tysA, tyA, Ty.enc, Ty.encs])
      | (refine Run.condM ?_; simp -implicitDefEqProofs only [lt_f hlt, ho.noLp, ho.cell, ho.cells, ho.lpOf, hlen, e1, e2, e3, e4, e5, e6, e7, e8, e9, rs_typing_text, Bool.not_eq_true', Bool.not_eq_false', go_sem, eq_self, Nat.reduceEqDiff, Nat.reduceBEq, Nat.reduceAdd, Nat.reduceLeDiff, reduceIte, reduceCtorEq, tysA, tyA, Ty.enc, Ty.encs])
      | (refine XCall.det hJ ?_ hnoLp; (try simp -implicitDefEqProofs only [lt_f hlt, ho.noLp, ho.cell, ho.cells, ho.lpOf, hlen, e1, e2, e3, e4, e5, e6, e7, e8, e9, rs_typing_text, Bool.not_eq_true', Bool.not_eq_false', go_sem, eq_self, Nat.reduceEqDiff, Nat.reduceBEq, Nat.reduceAdd, Nat.reduceLeDiff, reduceIte, reduceCtorEq, tysA, tyA, Ty.enc, Ty.encs]))
      | (refine XPv.strAdd (by (try simp only [List.length_append, List.length_cons, List.length_nil]); omega) ?_; (try simp -implicitDefEqProofs only [lt_f hlt, ho.noLp, ho.cell, ho.cells, ho.lpOf, hlen, e1, e2, e3, e4, e5, e6, e7, e8, e9, rs_typing_text, Bool.not_eq_true', Bool.not_eq_false', go_sem, eq_self, Nat.reduceEqDiff, Nat.reduceBEq, Nat.reduceAdd, Nat.reduceLeDiff, reduceIte, reduceCtorEq, tysA, tyA, Ty.enc, Ty.encs]))
      | (refine Run.retP g_typing_text (σ2 := σ) ho.le ?_; (try simp -implicitDefEqProofs only [lt_f hlt, ho.noLp, ho.cell, ho.cells, ho.lpOf, hlen, e1, e2, e3, e4, e5, e6, e7, e8, e9, rs_typing_text, Bool.not_eq_true', Bool.not_eq_false', go_sem, eq_self, Nat.reduceEqDiff, Nat.reduceBEq, Nat.reduceAdd, Nat.reduceLeDiff, reduceIte, reduceCtorEq, tysA, tyA, Ty.enc, Ty.encs]))
      | (refine xo_gs rfl (fun h => ?_) (fun h => ?_) <;> first | (cases h; done) | simp -implicitDefEqProofs only [lt_f hlt, ho.noLp, ho.cell, ho.cells, ho.lpOf, hlen, e1, e2, e3, e4, e5, e6, e7, e8, e9, rs_typing_text, Bool.not_eq_true', Bool.not_eq_false', go_sem, eq_self, Nat.reduceEqDiff, Nat.reduceBEq, Nat.reduceAdd, Nat.reduceLeDiff, reduceIte, reduceCtorEq, tysA, tyA, Ty.enc, Ty.encs])
      | (refine ⟨fun h => ?_, fun h => ?_⟩ <;> first | (cases h; done) | (simp -implicitDefEqProofs only [h]; done) | (try simp -implicitDefEqProofs only [h]))
      | fail))
      rw [hnode]
      simp [node, sepB]
    by_cases k5 : kd = 5
    · subst k5
      have e1 : ((5 : Int) == 1) = false := by decide
      have e2 : ((5 : Int) == 2) = false := by decide
      have e3 : ((5 : Int) == 3) = false := by decide
      have e4 : ((5 : Int) == 4) = false := by decide
      have e5 : ((5 : Int) == 5) = true := by decide
      have e6 : ((5 : Int) == 6) = false := by decide
      have e7 : ((5 : Int) == 7) = false := by decide
      have e8 : ((5 : Int) == 8) = false := by decide
      have e9 : ((5 : Int) == 9) = false := by decide
      have hsh := hvl.2
      simp [shapeOk] at hsh
      obtain ⟨hn0, hsh⟩ := hsh
      obtain ⟨p, rfl⟩ : ∃ p : Nat, nm = p := ⟨nm.toNat, by omega⟩
      simp only [Int.toNat_natCast] at hsh
      cases hdp : data[p]? with
      | none => rw [hdp] at hsh; simp at hsh
      | some d =>
        have hd' := dats_at hdp
        have hname : nameOf data (p : Int) = d.name := by simp [nameOf, hdp]
        have hdl : d.name.length ≤ 40 := hd.2 d (List.mem_of_getElem? hdp)
        cases hl0 : (l.length == 0) with
        | true =>
          (repeat' (first
      | refine Run.seq ?_
      | refine Run.skip ?_
      | refine Run.block ?_
      | refine Run.blk ?_
      | refine Run.scope ?_
      | refine Run.scp ?_
      | (refine Run.exit rfl ?_)
      | (refine Run.reg mixed ?_; simp -implicitDefEqProofs only [lt_f hlt, ho.noLp, ho.cell, ho.cells, ho.lpOf, hlen, e1, e2, e3, e4, e5, e6, e7, e8, e9, len_eq0, hl0, hd', rs_typing_text, Bool.not_eq_true', Bool.not_eq_false', go_sem, eq_self, Nat.reduceEqDiff, Nat.reduceBEq, Nat.reduceAdd, Nat.reduceLeDiff, reduceIte, reduceCtorEq, tysA, tyA, Ty.enc, Ty.encs])
      | (refine Run.condM ?_; simp -implicitDefEqProofs only [lt_f hlt, ho.noLp, ho.cell, ho.cells, ho.lpOf, hlen, e1, e2, e3, e4, e5, e6, e7, e8, e9, len_eq0, hl0, hd', rs_typing_text, Bool.not_eq_true', Bool.not_eq_false', go_sem, eq_self, Nat.reduceEqDiff, Nat.reduceBEq, Nat.reduceAdd, Nat.reduceLeDiff, reduceIte, reduceCtorEq, tysA, tyA, Ty.enc, Ty.encs])
      | (refine XCall.det hJ ?_ hnoLp; (try simp -implicitDefEqProofs only [lt_f hlt, ho.noLp, ho.cell, ho.cells, ho.lpOf, hlen, e1, e2, e3, e4, e5, e6, e7, e8, e9, len_eq0, hl0, hd', rs_typing_text, Bool.not_eq_true', Bool.not_eq_false', go_sem, eq_self, Nat.reduceEqDiff, Nat.reduceBEq, Nat.reduceAdd, Nat.reduceLeDiff, reduceIte, reduceCtorEq, tysA, tyA, Ty.enc, Ty.encs]))
      | (refine XPv.strAdd (by (try simp only [List.length_append, List.length_cons, List.length_nil]); omega) ?_; (try simp -implicitDefEqProofs only [lt_f hlt, ho.noLp, ho.cell, ho.cells, ho.lpOf, hlen, e1, e2, e3, e4, e5, e6, e7, e8, e9, len_eq0, hl0, hd', rs_typing_text, Bool.not_eq_true', Bool.not_eq_false', go_sem, eq_self, Nat.reduceEqDiff, Nat.reduceBEq, Nat.reduceAdd, Nat.reduceLeDiff, reduceIte, reduceCtorEq, tysA, tyA, Ty.enc, Ty.encs]))
      | (refine Run.retP g_typing_text (σ2 := σ) ho.le ?_; (try simp -implicitDefEqProofs only [lt_f hlt, ho.noLp, ho.cell, ho.cells, ho.lpOf, hlen, e1, e2, e3, e4, e5, e6, e7, e8, e9, len_eq0, hl0, hd', rs_typing_text, Bool.not_eq_true', Bool.not_eq_false', go_sem, eq_self, Nat.reduceEqDiff, Nat.reduceBEq, Nat.reduceAdd, Nat.reduceLeDiff, reduceIte, reduceCtorEq, tysA, tyA, Ty.enc, Ty.encs]))
      | (refine xo_gs rfl (fun h => ?_) (fun h => ?_) <;> first | (cases h; done) | simp -implicitDefEqProofs only [lt_f hlt, ho.noLp, ho.cell, ho.cells, ho.lpOf, hlen, e1, e2, e3, e4, e5, e6, e7, e8, e9, len_eq0, hl0, hd', rs_typing_text, Bool.not_eq_true', Bool.not_eq_false', go_sem, eq_self, Nat.reduceEqDiff, Nat.reduceBEq, Nat.reduceAdd, Nat.reduceLeDiff, reduceIte, reduceCtorEq, tysA, tyA, Ty.enc, Ty.encs])
      | (refine ⟨fun h => ?_, fun h => ?_⟩ <;> first | (cases h; done) | (simp -implicitDefEqProofs only [h]; done) | (try simp -implicitDefEqProofs only [h]))
      | fail))
          rw [hnode]
          have h0 : l.length = 0 := by simpa using hl0
          have : l = [] := List.length_eq_zero_iff.1 h0
          subst this
          simp [node, txs, hname]
        | false =>
          (repeat' (first
      | refine Run.seq ?_
      | refine Run.skip ?_
      | refine Run.block ?_
      | refine Run.blk ?_
      | refine Run.scope ?_
      | refine Run.scp ?_
      | (refine Run.exit rfl ?_)
      | (refine Run.reg mixed ?_; simp -implicitDefEqProofs only [lt_f hlt, ho.noLp, ho.cell, ho.cells, ho.lpOf, hlen, e1, e2, e3, e4, e5, e6, e7, e8, e9, len_eq0, hl0, hd', rs_typing_text, Bool.not_eq_true', Bool.not_eq_false', go_sem, eq_self, Nat.reduceEqDiff, Nat.reduceBEq, Nat.reduceAdd, Nat.reduceLeDiff, reduceIte, reduceCtorEq, tysA, tyA, Ty.enc, Ty.encs])
      | (refine Run.condM ?_; simp -implicitDefEqProofs only [lt_f hlt, ho.noLp, ho.cell, ho.cells, ho.lpOf, hlen, e1, e2, e3, e4, e5, e6, e7, e8, e9, len_eq0, hl0, hd', rs_typing_text, Bool.not_eq_true', Bool.not_eq_false', go_sem, eq_self, Nat.reduceEqDiff, Nat.reduceBEq, Nat.reduceAdd, Nat.reduceLeDiff, reduceIte, reduceCtorEq, tysA, tyA, Ty.enc, Ty.encs])
      | (refine XCall.det hJ ?_ hnoLp; (try simp -implicitDefEqProofs only [lt_f hlt, ho.noLp, ho.cell, ho.cells, ho.lpOf, hlen, e1, e2, e3, e4, e5, e6, e7, e8, e9, len_eq0, hl0, hd', rs_typing_text, Bool.not_eq_true', Bool.not_eq_false', go_sem, eq_self, Nat.reduceEqDiff, Nat.reduceBEq, Nat.reduceAdd, Nat.reduceLeDiff, reduceIte, reduceCtorEq, tysA, tyA, Ty.enc, Ty.encs]))
      | (refine XPv.strAdd (by (try simp only [List.length_append, List.length_cons, List.length_nil]); omega) ?_; (try simp -implicitDefEqProofs only [lt_f hlt, ho.noLp, ho.cell, ho.cells, ho.lpOf, hlen, e1, e2, e3, e4, e5, e6, e7, e8, e9, len_eq0, hl0, hd', rs_typing_text, Bool.not_eq_true', Bool.not_eq_false', go_sem, eq_self, Nat.reduceEqDiff, Nat.reduceBEq, Nat.reduceAdd, Nat.reduceLeDiff, reduceIte, reduceCtorEq, tysA, tyA, Ty.enc, Ty.encs]))
      | (refine Run.retP g_typing_text (σ2 := σ) ho.le ?_; (try simp -implicitDefEqProofs only [lt_f hlt, ho.noLp, ho.cell, ho.cells, ho.lpOf, hlen, e1, e2, e3, e4, e5, e6, e7, e8, e9, len_eq0, hl0, hd', rs_typing_text, Bool.not_eq_true', Bool.not_eq_false', go_sem, eq_self, Nat.reduceEqDiff, Nat.reduceBEq, Nat.reduceAdd, Nat.reduceLeDiff, reduceIte, reduceCtorEq, tysA, tyA, Ty.enc, Ty.encs]))
      | (refine xo_gs rfl (fun h => ?_) (fun h => ?_) <;> first | (cases h; done) | simp -implicitDefEqProofs only [lt_f hlt, ho.noLp, ho.cell, ho.cells, ho.lpOf, hlen, e1, e2, e3, e4, e5, e6, e7, e8, e9, len_eq0, hl0, hd', rs_typing_text, Bool.not_eq_true', Bool.not_eq_false', go_sem, eq_self, Nat.reduceEqDiff, Nat.reduceBEq, Nat.reduceAdd, Nat.reduceLeDiff, reduceIte, reduceCtorEq, tysA, tyA, Ty.enc, Ty.encs])
      | (refine ⟨fun h => ?_, fun h => ?_⟩ <;> first | (cases h; done) | (simp -implicitDefEqProofs only [h]; done) | (try simp -implicitDefEqProofs only [h]))
      | fail))
          rw [hnode]
          have h0 : ¬ l.length = 0 := by simpa using hl0
          have hne : txs data l ≠ [] := fun h => h0 (by rw [← txs_length data l, h]; rfl)
          simp [node, hne, hname, sepB]
    by_cases k9 : kd = 9
    · subst k9
      have e1 : ((9 : Int) == 1) = false := by decide
      have e2 : ((9 : Int) == 2) = false := by decide
      have e3 : ((9 : Int) == 3) = false := by decide
      have e4 : ((9 : Int) == 4) = false := by decide
      have e5 : ((9 : Int) == 5) = false := by decide
      have e6 : ((9 : Int) == 6) = false := by decide
      have e7 : ((9 : Int) == 7) = false := by decide
      have e8 : ((9 : Int) == 8) = false := by decide
      have e9 : ((9 : Int) == 9) = true := by decide
      have hsh := hvl.2
      have h1l : 1 ≤ l.length := by simp [shapeOk] at hsh; omega
      obtain ⟨q, hq⟩ : ∃ q, l.length = q + 1 := ⟨l.length - 1, by omega⟩
      have hne : (txs data l).map sRow ≠ [] := by
        intro h
        have := congrArg List.length h
        rw [List.length_map, txs_length, List.length_nil] at this
        omega
      obtain ⟨tk, rfl⟩ := ho.form hne
      obtain ⟨x, hx⟩ := ex_at (l := txs data l) (i := q) (by rw [txs_length]; omega)
      have hx' := str_row hx
      have hws : IntKind.i64.wrap ((l.length : Int) - 1) = (q : Int) := by rw [wrap_pos (by omega) (by omega)]; omega
      have hrl : ((txs data l).map sRow).length = l.length := by rw [List.length_map, txs_length]
      have hslr : slsR ((txs data l).map sRow) none (some (.d (.int .i64 (q : Int)))) none 1 = some (.d (.sl (((txs data l).take q).map sRow))) := by
        rw [slsR_hi (by rw [hrl]; omega)]
        congr 3
        first | exact List.map_take | exact List.map_take.symm
      have hjt := join_len ((txs data l).take q)
      have hst := sumLen_get hx
      unfold sepB at hjt
      have hJ2 := Join_ok ((txs data l).take q) [44, 32] σ1 (by rw [List.length_take, txs_length]; omega) (by omega)
      (repeat' (first
      | refine Run.seq ?_
      | refine Run.skip ?_
      | refine Run.block ?_
      | refine Run.blk ?_
      | refine Run.scope ?_
      | refine Run.scp ?_
      | (refine Run.exit rfl ?_)
      | (refine Run.reg mixed ?_; simp -implicitDefEqProofs only [lt_f hlt, ho.noLp, ho.cell, ho.cells, ho.lpOf, hlen, e1, e2, e3, e4, e5, e6, e7, e8, e9, hws, hrl, hslr, hx', List.length_map, txs_length, rs_typing_text, Bool.not_eq_true', Bool.not_eq_false', go_sem, eq_self, Nat.reduceEqDiff, Nat.reduceBEq, Nat.reduceAdd, Nat.reduceLeDiff, reduceIte, reduceCtorEq, tysA, tyA, Ty.enc, Ty.encs])
      | (refine Run.condM ?_; simp -implicitDefEqProofs only [lt_f hlt, ho.noLp, ho.cell, ho.cells, ho.lpOf, hlen, e1, e2, e3, e4, e5, e6, e7, e8, e9, hws, hrl, hslr, hx', List.length_map, txs_length, rs_typing_text, Bool.not_eq_true', Bool.not_eq_false', go_sem, eq_self, Nat.reduceEqDiff, Nat.reduceBEq, Nat.reduceAdd, Nat.reduceLeDiff, reduceIte, reduceCtorEq, tysA, tyA, Ty.enc, Ty.encs])
      | (refine XCall.det hJ ?_ hnoLp; (try simp -implicitDefEqProofs only [lt_f hlt, ho.noLp, ho.cell, ho.cells, ho.lpOf, hlen, e1, e2, e3, e4, e5, e6, e7, e8, e9, hws, hrl, hslr, hx', List.length_map, txs_length, rs_typing_text, Bool.not_eq_true', Bool.not_eq_false', go_sem, eq_self, Nat.reduceEqDiff, Nat.reduceBEq, Nat.reduceAdd, Nat.reduceLeDiff, reduceIte, reduceCtorEq, tysA, tyA, Ty.enc, Ty.encs]))
      | (refine XCall.det hJ2 ?_; (try simp -implicitDefEqProofs only [lt_f hlt, ho.noLp, ho.cell, ho.cells, ho.lpOf, hlen, e1, e2, e3, e4, e5, e6, e7, e8, e9, hws, hrl, hslr, hx', List.length_map, txs_length, rs_typing_text, Bool.not_eq_true', Bool.not_eq_false', go_sem, eq_self, Nat.reduceEqDiff, Nat.reduceBEq, Nat.reduceAdd, Nat.reduceLeDiff, reduceIte, reduceCtorEq, tysA, tyA, Ty.enc, Ty.encs]))
      | (refine Run.regT mixed ?_; (try simp -implicitDefEqProofs only [lt_f hlt, ho.noLp, ho.cell, ho.cells, ho.lpOf, hlen, e1, e2, e3, e4, e5, e6, e7, e8, e9, hws, hrl, hslr, hx', List.length_map, txs_length, rs_typing_text, Bool.not_eq_true', Bool.not_eq_false', go_sem, eq_self, Nat.reduceEqDiff, Nat.reduceBEq, Nat.reduceAdd, Nat.reduceLeDiff, reduceIte, reduceCtorEq, tysA, tyA, Ty.enc, Ty.encs]))
      | (refine XPv.strAdd (by (try simp only [List.length_append, List.length_cons, List.length_nil]); omega) ?_; (try simp -implicitDefEqProofs only [lt_f hlt, ho.noLp, ho.cell, ho.cells, ho.lpOf, hlen, e1, e2, e3, e4, e5, e6, e7, e8, e9, hws, hrl, hslr, hx', List.length_map, txs_length, rs_typing_text, Bool.not_eq_true', Bool.not_eq_false', go_sem, eq_self, Nat.reduceEqDiff, Nat.reduceBEq, Nat.reduceAdd, Nat.reduceLeDiff, reduceIte, reduceCtorEq, tysA, tyA, Ty.enc, Ty.encs]))
      | (refine Run.retP g_typing_text (σ2 := σ) ho.le ?_; (try simp -implicitDefEqProofs only [lt_f hlt, ho.noLp, ho.cell, ho.cells, ho.lpOf, hlen, e1, e2, e3, e4, e5, e6, e7, e8, e9, hws, hrl, hslr, hx', List.length_map, txs_length, rs_typing_text, Bool.not_eq_true', Bool.not_eq_false', go_sem, eq_self, Nat.reduceEqDiff, Nat.reduceBEq, Nat.reduceAdd, Nat.reduceLeDiff, reduceIte, reduceCtorEq, tysA, tyA, Ty.enc, Ty.encs]))
      | (refine And.intro ?_ ?_; (try simp -implicitDefEqProofs only [lt_f hlt, ho.noLp, ho.cell, ho.cells, ho.lpOf, hlen, e1, e2, e3, e4, e5, e6, e7, e8, e9, hws, hrl, hslr, hx', List.length_map, txs_length, rs_typing_text, Bool.not_eq_true', Bool.not_eq_false', go_sem, eq_self, Nat.reduceEqDiff, Nat.reduceBEq, Nat.reduceAdd, Nat.reduceLeDiff, reduceIte, reduceCtorEq, tysA, tyA, Ty.enc, Ty.encs]))
      | (refine xo_gs rfl (fun h => ?_) (fun h => ?_) <;> first | (cases h; done) | simp -implicitDefEqProofs only [lt_f hlt, ho.noLp, ho.cell, ho.cells, ho.lpOf, hlen, e1, e2, e3, e4, e5, e6, e7, e8, e9, hws, hrl, hslr, hx', List.length_map, txs_length, rs_typing_text, Bool.not_eq_true', Bool.not_eq_false', go_sem, eq_self, Nat.reduceEqDiff, Nat.reduceBEq, Nat.reduceAdd, Nat.reduceLeDiff, reduceIte, reduceCtorEq, tysA, tyA, Ty.enc, Ty.encs])
      | (refine ⟨fun h => ?_, fun h => ?_⟩ <;> first | (cases h; done) | (simp -implicitDefEqProofs only [h]; done) | (try simp -implicitDefEqProofs only [h]))
      | fail))
      all_goals
        rw [hnode]
        simp [node, txs_length, hq, hx, sepB]
        exact (List.getElem?_eq_some_iff.1 hx).2.symm
    have e1 := beqF k1
    have e2 := beqF k2
    have e3 := beqF k3
    have e4 := beqF k4
    have e5 := beqF k5
    have e7 := beqF k7
    have e8 := beqF k8
    have e9 := beqF k9
    (repeat' (first
      | refine Run.seq ?_
      | refine Run.skip ?_
      | refine Run.block ?_
      | refine Run.blk ?_
      | refine Run.scope ?_
      | refine Run.scp ?_
      | (refine Run.exit rfl ?_)
      | (refine Run.reg mixed ?_; simp -implicitDefEqProofs only [lt_f hlt, ho.noLp, ho.cell, ho.cells, ho.lpOf, hlen, e1, e2, e3, e4, e5, e7, e8, e9, rs_typing_text, Bool.not_eq_true', Bool.not_eq_false', go_sem, eq_self, Nat.reduceEqDiff, Nat.reduceBEq, Nat.reduceAdd, Nat.reduceLeDiff, reduceIte, reduceCtorEq, tysA, tyA, Ty.enc, Ty.encs])
      | (refine Run.condM ?_; simp -implicitDefEqProofs only [lt_f hlt, ho.noLp, ho.cell, ho.cells, ho.lpOf, hlen, e1, e2, e3, e4, e5, e7, e8, e9, rs_typing_text, Bool.not_eq_true', Bool.not_eq_false', go_sem, eq_self, Nat.reduceEqDiff, Nat.reduceBEq, Nat.reduceAdd, Nat.reduceLeDiff, reduceIte, reduceCtorEq, tysA, tyA, Ty.enc, Ty.encs])
      | (refine XCall.det hJ ?_ hnoLp; (try simp -implicitDefEqProofs only [lt_f hlt, ho.noLp, ho.cell, ho.cells, ho.lpOf, hlen, e1, e2, e3, e4, e5, e7, e8, e9, rs_typing_text, Bool.not_eq_true', Bool.not_eq_false', go_sem, eq_self, Nat.reduceEqDiff, Nat.reduceBEq, Nat.reduceAdd, Nat.reduceLeDiff, reduceIte, reduceCtorEq, tysA, tyA, Ty.enc, Ty.encs]))
      | (refine XPv.strAdd (by (try simp only [List.length_append, List.length_cons, List.length_nil]); omega) ?_; (try simp -implicitDefEqProofs only [lt_f hlt, ho.noLp, ho.cell, ho.cells, ho.lpOf, hlen, e1, e2, e3, e4, e5, e7, e8, e9, rs_typing_text, Bool.not_eq_true', Bool.not_eq_false', go_sem, eq_self, Nat.reduceEqDiff, Nat.reduceBEq, Nat.reduceAdd, Nat.reduceLeDiff, reduceIte, reduceCtorEq, tysA, tyA, Ty.enc, Ty.encs]))
      | (refine Run.retP g_typing_text (σ2 := σ) ho.le ?_; (try simp -implicitDefEqProofs only [lt_f hlt, ho.noLp, ho.cell, ho.cells, ho.lpOf, hlen, e1, e2, e3, e4, e5, e7, e8, e9, rs_typing_text, Bool.not_eq_true', Bool.not_eq_false', go_sem, eq_self, Nat.reduceEqDiff, Nat.reduceBEq, Nat.reduceAdd, Nat.reduceLeDiff, reduceIte, reduceCtorEq, tysA, tyA, Ty.enc, Ty.encs]))
      | (refine xo_gs rfl (fun h => ?_) (fun h => ?_) <;> first | (cases h; done) | simp -implicitDefEqProofs only [lt_f hlt, ho.noLp, ho.cell, ho.cells, ho.lpOf, hlen, e1, e2, e3, e4, e5, e7, e8, e9, rs_typing_text, Bool.not_eq_true', Bool.not_eq_false', go_sem, eq_self, Nat.reduceEqDiff, Nat.reduceBEq, Nat.reduceAdd, Nat.reduceLeDiff, reduceIte, reduceCtorEq, tysA, tyA, Ty.enc, Ty.encs])
      | (refine ⟨fun h => ?_, fun h => ?_⟩ <;> first | (cases h; done) | (simp -implicitDefEqProofs only [h]; done) | (try simp -implicitDefEqProofs only [h]))
      | fail))
    rw [hnode]
    simp [node, sepB, k1, k2, k3, k4, k5, k7, k8, k9]
end Go.Ab
