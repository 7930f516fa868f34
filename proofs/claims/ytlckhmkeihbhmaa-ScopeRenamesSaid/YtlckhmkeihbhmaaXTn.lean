/- Prefixes and tokens. One token. Texts split into tokens. Valid programs, in plain data. Names and arities, in plain data. Conditions: none. -/
import Derived.Test.YtlckhmkeihbhmaaXLfP
set_option linter.unusedSimpArgs false
namespace Go.Ab
open Go.Proofs
def clsB (c : Int → Bool) (b : UInt8) : Bool := c b.toNat
theorem takeWhile_drop {c : UInt8 → Bool} {s : Str} {i : Nat} (h : ∀ j b, j < i → s[j]? = some b → c b = true) (hi : i ≤ s.length) (he : ∀ b, s[i]? = some b → c b = false) : s.takeWhile c = s.take i := by
  induction i generalizing s with
  | zero =>
    cases s with
    | nil => rfl
    | cons b r => simp [he b rfl]
  | succ i ih =>
    cases s with
    | nil => simp at hi
    | cons b r =>
      have hb : c b = true := h 0 b (by omega) rfl
      rw [List.takeWhile_cons, hb, if_pos rfl, List.take_succ_cons, ih (fun j b hj hb => h (j + 1) b (by omega) hb) (by simpa using hi) (fun b hb => he b hb)]
theorem token_prefix_ok {fid : FuncId} (hb : hasBody Try.prog fid = true) (c : Int → Bool) (hc : ∀ n σ, ACalls Try.prog fid [.d (.int .u8 n)] σ (fun v σ' => v = .d (.bool (c n)) ∧ σ' = σ)) (s : Str) (σ : Heap) (hl : s.length ≤ 1000000000) :
    ACalls Try.prog 96 [.d (.str s), .fn fid [] []] σ (fun v σ' => v = .d (.str (s.takeWhile (clsB c))) ∧ σ' = σ) := by
  refine i_token_prefix (by simp) ?_
  rw [argF_2]
  (repeat (first
      | refine Run.seq ?_
      | refine Run.skip ?_
      | refine Run.block ?_
      | refine Run.blk ?_
      | refine Run.scope ?_
      | refine Run.scp ?_
      | (refine Run.exit rfl ?_)
      | (refine Run.reg mixed ?_; simp -implicitDefEqProofs only [go_sem, Nat.reduceEqDiff, Nat.reduceBEq, Nat.reduceAdd, Nat.reduceLeDiff, reduceIte, reduceCtorEq])
      | (refine Run.condM ?_; simp -implicitDefEqProofs only [go_sem, Nat.reduceEqDiff, Nat.reduceBEq, Nat.reduceAdd, Nat.reduceLeDiff, reduceIte, reduceCtorEq])))
  refine Run.loopA ?_
  refine Run.loopI ((fun (a0 : AV) (a1 : AV) => fun (i : Nat) => put 0 a0 (put 1 a1 (put 5 (.d (.int .i64 i)) U))) _ _) (fun _ => E) (fun _ => σ) (fun i => i ≤ s.length ∧ ∀ j b, j < i → s[j]? = some b → clsB c b = true) (fun i => s.length - i) ?_ 0 ⟨by simp, by simp⟩
  rintro i ⟨hi, hs⟩ ih
  by_cases hlt : i < s.length
  · obtain ⟨x, hx⟩ := ex_at hlt
    (repeat' (first|refine Run.ct rfl ?_|((first|refine Run.reg mixed ?_|refine Run.condM ?_|(refine ⟨fid, [], [], rfl, hb, XCall.det (hc _ _) ?_⟩)|refine Run.retP g_token_prefix (Heap.le_refl _) ?_|(refine xo_gs rfl (fun h => ?_) (fun h => ?_) <;> try (cases h; done))) <;> try simp -implicitDefEqProofs only [lt_t hlt, sidx_at hx, ssl_hi hi, wrap_succ (show i + 1 ≤ 9000000000000000000 by omega), go_sem, Nat.reduceEqDiff, Nat.reduceBEq, Nat.reduceAdd, Nat.reduceLeDiff, reduceIte, reduceCtorEq])|(refine ⟨fun h => ?_, fun h => ?_⟩ <;> first|(cases h; done)|try simp only [h])|fail))
    · refine ih (i + 1) ⟨hlt, fun j b hj hb => ?_⟩ (by omega)
      rcases Nat.lt_or_ge j i with h2 | h2
      · exact hs j b h2 hb
      · have : j = i := by omega
        subst this
        rw [hx] at hb; cases hb; exact h
    · rw [takeWhile_drop hs hi (fun b hb => by rw [hx] at hb; cases hb; exact h)]
  · have hge : i = s.length := by omega
    (repeat' (first|refine Run.ct rfl ?_|((first|refine Run.reg mixed ?_|refine Run.condM ?_|refine Run.retP g_token_prefix (Heap.le_refl _) ?_|(refine xo_gs rfl (fun h => ?_) (fun h => ?_) <;> try (cases h; done))) <;> try simp -implicitDefEqProofs only [lt_f hlt, ssl_hi hi, go_sem, Nat.reduceEqDiff, Nat.reduceBEq, Nat.reduceAdd, Nat.reduceLeDiff, reduceIte, reduceCtorEq])|(refine ⟨fun h => ?_, fun h => ?_⟩ <;> first|(cases h; done)|try simp only [h])|fail))
    rw [takeWhile_drop hs hi (fun b hb => by rw [hge] at hb; simp at hb)]
theorem r3_sign_ok (s : Str) (σ : Heap) (hs : s ≠ []) : ACalls Try.prog 49 [.d (.str s)] σ (fun v σ' => v = .d (.int .i64 (signN s)) ∧ σ' = σ) := by
  have hloop : ∀ (b : UInt8) (r : Str), (signN (b :: r) = sgn1 b) → Run x_r3_sign (fun v σ' => v = .d (.int .i64 (signN (b :: r))) ∧ σ' = σ) [.again c_r3_sign_L0, .blk 0, .code (.seq (.reg [⟨some 2, .mv (.c (.d (.int .i64 0))), none⟩] [2]) .ret)] (put 0 (.d (.str (b :: r))) (put 3 (.d (.str sgnB)) (put 4 (.d (.int .i64 0)) U))) E σ := by
    intro b r hbr
    refine Run.loopI ((fun (a0 : AV) (a3 : AV) => fun (i : Nat) => put 0 a0 (put 3 a3 (put 4 (.d (.int .i64 i)) U))) _ _) (fun _ => E) (fun _ => σ) (fun i => i ≤ sgnB.length ∧ sgnB.any (b == ·) = (sgnB.drop i).any (b == ·)) (fun i => sgnB.length - i) ?_ 0 ⟨by simp, rfl⟩
    rintro i ⟨hi, hs⟩ ih
    have hn : sgnB.length = 13 := rfl
    have h0 : (b :: r)[0]? = some b := rfl
    by_cases hlt : i < sgnB.length
    · obtain ⟨x, hx⟩ := ex_at hlt
      rw [drop_at hx, List.any_cons] at hs
      have hz := sidx_at h0 .i64
      rw [show ((0 : Nat) : Int) = 0 from rfl] at hz
      (repeat' (first|refine Run.ct rfl ?_|((first|refine Run.reg mixed ?_|refine Run.condM ?_|refine Run.retP g_r3_sign (Heap.le_refl _) ?_|(refine xo_gs rfl (fun h => ?_) (fun h => ?_) <;> try (cases h; done))) <;> try simp -implicitDefEqProofs only [lt_t hlt, sidx_at hx, hz, u8eq, wrap_succ (show i + 1 ≤ 9000000000000000000 by omega), go_sem, Nat.reduceEqDiff, Nat.reduceBEq, Nat.reduceAdd, Nat.reduceLeDiff, reduceIte, reduceCtorEq])|(refine ⟨fun h => ?_, fun h => ?_⟩ <;> first|(cases h; done)|try simp only [h])|fail))
      · rw [hbr, sgn1, hs, h]; rfl
      · exact ih (i + 1) ⟨hlt, by rw [hs, h]; rfl⟩ (by omega)
    · have hge : i = sgnB.length := by omega
      (repeat' (first|refine Run.ct rfl ?_|((first|refine Run.reg mixed ?_|refine Run.condM ?_|refine Run.retP g_r3_sign (Heap.le_refl _) ?_|(refine xo_gs rfl (fun h => ?_) (fun h => ?_) <;> try (cases h; done))) <;> try simp -implicitDefEqProofs only [lt_f hlt, go_sem, Nat.reduceEqDiff, Nat.reduceBEq, Nat.reduceAdd, Nat.reduceLeDiff, reduceIte, reduceCtorEq])|(refine ⟨fun h => ?_, fun h => ?_⟩ <;> first|(cases h; done)|try simp only [h])|fail))
      rw [hbr, sgn1, hs, hge]; rfl
  match s, hs with
  | [b], _ =>
    refine i_r3_sign (by simp) ?_
    rw [argF_1]
    (repeat' (first|refine Run.ct rfl ?_|((first|refine Run.reg mixed ?_|refine Run.condM ?_|refine Run.retP g_r3_sign (Heap.le_refl _) ?_|(refine xo_gs rfl (fun h => ?_) (fun h => ?_) <;> try (cases h; done))) <;> try simp -implicitDefEqProofs only [ge2_f, go_sem, Nat.reduceEqDiff, Nat.reduceBEq, Nat.reduceAdd, Nat.reduceLeDiff, reduceIte, reduceCtorEq])|(refine ⟨fun h => ?_, fun h => ?_⟩ <;> first|(cases h; done)|try simp only [h])|fail))
    exact Run.loopA (hloop b [] rfl)
  | b :: c :: r, _ =>
    refine i_r3_sign (by simp) ?_
    rw [argF_1]
    (repeat' (first|refine Run.ct rfl ?_|((first|refine Run.reg mixed ?_|refine Run.condM ?_|refine Run.retP g_r3_sign (Heap.le_refl _) ?_|(refine xo_gs rfl (fun h => ?_) (fun h => ?_) <;> try (cases h; done))) <;> try simp -implicitDefEqProofs only [ge2_t, ssl_2, go_sem, Nat.reduceEqDiff, Nat.reduceBEq, Nat.reduceAdd, Nat.reduceLeDiff, reduceIte, reduceCtorEq])|(refine ⟨fun h => ?_, fun h => ?_⟩ <;> first|(cases h; done)|try simp only [h])|fail))
    all_goals (first | exact Run.loopA (hloop b (c :: r) (by simp only [signN, sgn2, *]; rfl)) | (simp only [signN, sgn2, *]; rfl))
end Go.Ab

namespace Go.Ab
open Go.Proofs
def scanP : Str → Except Int (Int × Str)
  | [] => .error 2
  | b :: r =>
    if lowB b.toNat || uppB b.toNat then
      if decide (((b :: r).takeWhile (clsB witB)).length > 24) then .error 9
      else if uppB b.toNat then .ok (2, (b :: r).takeWhile (clsB witB))
      else if keyB ((b :: r).takeWhile (clsB witB)) then .ok (4, (b :: r).takeWhile (clsB witB))
      else .ok (1, (b :: r).takeWhile (clsB witB))
    else if digB b.toNat then
      if b == 48 && decide (((b :: r).takeWhile (clsB digB)).length > 1) then .error 2
      else if (valGo ((b :: r).takeWhile (clsB digB)) 0).isSome then .ok (3, (b :: r).takeWhile (clsB digB))
      else .error 9
    else if (b :: r).take (signN (b :: r)) == [] then .error 2
    else .ok (5, (b :: r).take (signN (b :: r)))
def tokA (k : Int) (t : Str) (p : Int) : AV := .agg [.d (.int .i64 k), .d (.str t), .d (.int .i64 p)]
def scanA (p : Int) : Except Int (Int × Str) → AV
  | .error e => .tup [tokA 0 [] 0, .d (.int .i64 e)]
  | .ok (k, t) => .tup [tokA k t p, .d (.int .i64 0)]
theorem takeWhile_len {α : Type} (p : α → Bool) (l : List α) : (l.takeWhile p).length ≤ l.length := (List.takeWhile_prefix p).length_le
theorem u8eqc (b : UInt8) : ((b.toNat : Int) == 48) = (b == 48) := u8eq b 48
theorem gt24 (n : Nat) : decide ((24 : Int) < (n : Int)) = decide (n > 24) := decide_eq_decide.2 (by omega)
theorem gt1 (n : Nat) : decide ((1 : Int) < (n : Int)) = decide (n > 1) := decide_eq_decide.2 (by omega)
theorem hb_within : hasBody Try.prog 97 = true := by kernel_rfl
theorem hb_digit : hasBody Try.prog 99 = true := by kernel_rfl
theorem token_scan_ok (src : Str) (i : Nat) (σ : Heap) (hl : src.length ≤ 1000000000) (hi : i < src.length) :
    ACalls Try.prog 91 [.d (.str src), .d (.int .i64 i)] σ (fun v σ' => v = scanA i (scanP (src.drop i)) ∧ σ' = σ) := by
  obtain ⟨b, hb⟩ := ex_at hi
  have hd := drop_at hb
  rw [hd]
  have hld : (src.drop i).length ≤ 1000000000 := by simp; omega
  rw [hd] at hld
  have hw1 := takeWhile_len (clsB witB) (b :: src.drop (i + 1))
  have hw2 := takeWhile_len (clsB digB) (b :: src.drop (i + 1))
  have hs1 : sslA (.d (.str src)) (some (.d (.int .i64 (i : Int)))) none = some (.d (.str (b :: src.drop (i + 1)))) := by rw [ssl_lo (by omega), hd]
  refine i_token_scan (by simp) ?_
  rw [argF_2]
  generalize src.drop (i + 1) = r at *
  (repeat' (first|refine Run.ct rfl ?_|((first|refine Run.reg mixed ?_|refine Run.condM ?_|refine Run.retP g_token_scan (Heap.le_refl _) ?_|refine XCall.det (token_lower_ok _ _) ?_|refine XCall.det (token_upper_ok _ _) ?_|refine XCall.det (token_digit_ok _ _) ?_|refine XCall.det (token_Keyword_ok _ _) ?_|refine XCall.det (token_small_ok _ _ (by omega)) ?_|refine XCall.det (token_sign_ok _ _ (by simp)) ?_|refine XCall.det (token_prefix_ok (c := witB) hb_within token_within_ok _ _ hld) ?_|refine XCall.det (token_prefix_ok (c := digB) hb_digit token_digit_ok _ _ hld) ?_|(refine xo_gs rfl (fun h => ?_) (fun h => ?_) <;> try (cases h; done))) <;> try simp -implicitDefEqProofs only [sidx_at hb, hs1, u8eqc, gt24, gt1, go_sem, Nat.reduceEqDiff, Nat.reduceBEq, Nat.reduceAdd, Nat.reduceLeDiff, reduceIte, reduceCtorEq])|(refine ⟨fun h => ?_, fun h => ?_⟩ <;> first|(cases h; done)|try simp only [h])|fail))
  all_goals (clear hw1 hw2 hs1 hd hld; first | (simp only [scanP, scanA, tokA, *, Bool.or_true, Bool.true_or, Bool.or_false, Bool.false_or, Bool.and_true, Bool.true_and, Bool.and_false, Bool.false_and, Bool.false_eq_true, reduceIte]; done) | simp_all [scanP, scanA, tokA])
end Go.Ab

namespace Go.Ab
open Go.Proofs
structure Tok where
  kind : Int
  text : Str
  pos : Nat
def Tok.enc (t : Tok) : List DV := [.int .i64 t.kind, .str t.text, .int .i64 t.pos]
def cmt (s : Str) : Nat := (s.takeWhile (fun c => !(c == 10))).length
def splGo : Nat → Str → Nat → List Tok → List Tok × Nat × Int
  | 0, _, _, _ => ([], 0, 0)
  | n + 1, rest, i, acc => match rest with
    | [] => (acc ++ [⟨6, [], i⟩], 0, 0)
    | b :: r =>
      if blaB b.toNat then splGo n r (i + 1) acc
      else if b == 35 then splGo n ((b :: r).drop (cmt (b :: r))) (i + cmt (b :: r)) acc
      else match scanP (b :: r) with
        | .error e => ([], i, e)
        | .ok (k, t) => splGo n ((b :: r).drop t.length) (i + t.length) (acc ++ [⟨k, t, i⟩])
def splitP (s : Str) : List Tok × Nat × Int := if s.length > 16384 then ([], 0, 9) else splGo (s.length + 1) s 0 []
def splitA (r : List Tok × Nat × Int) : AV := .tup [.d (.sl (r.1.map Tok.enc)), .d (.int .i64 r.2.1), .d (.int .i64 r.2.2)]
theorem u8eq35 (b : UInt8) : ((b.toNat : Int) == 35) = (b == 35) := u8eq b 35
theorem u8eq10 (b : UInt8) : ((b.toNat : Int) == 10) = (b == 10) := u8eq b 10
theorem gtMax (n : Nat) : decide ((16384 : Int) < (n : Int)) = decide (n > 16384) := decide_eq_decide.2 (by omega)
theorem scan_len {s : Str} {k : Int} {t : Str} (h : scanP s = .ok (k, t)) : 1 ≤ t.length ∧ t.length ≤ s.length := by
  match s with
  | [] => simp [scanP] at h
  | b :: r =>
    have h1 := takeWhile_len (clsB witB) (b :: r)
    have h2 := takeWhile_len (clsB digB) (b :: r)
    simp only [scanP] at h
    split at h
    · rename_i hlu
      have hw : clsB witB b = true := by
        simp only [clsB, witB]; rw [hlu]; rfl
      have h3 : 1 ≤ ((b :: r).takeWhile (clsB witB)).length := by simp [hw]
      split at h
      · cases h
      · split at h
        · cases h; exact ⟨h3, h1⟩
        · split at h <;> (cases h; exact ⟨h3, h1⟩)
    · split at h
      · rename_i hdg
        have h3 : 1 ≤ ((b :: r).takeWhile (clsB digB)).length := by simp [clsB, hdg]
        split at h
        · cases h
        · split at h <;> cases h
          exact ⟨h3, h2⟩
      · split at h
        · cases h
        · rename_i hne
          cases h
          refine ⟨?_, List.length_take_le' _ _⟩
          cases he : (b :: r).take (signN (b :: r)) with
          | nil => rw [he] at hne; simp at hne
          | cons => simp
theorem scan_err {s : Str} {e : Int} (h : scanP s = .error e) : e = 2 ∨ e = 9 := by
  match s with
  | [] => simp only [scanP, Except.error.injEq] at h; omega
  | b :: r =>
    simp only [scanP] at h
    repeat' split at h
    all_goals first | (cases h; simp; done) | cases h
theorem token_Split_ok (s : Str) (σ : Heap) : ACalls Try.prog 77 [.d (.str s)] σ (fun v σ' => v = splitA (splitP s) ∧ σ' = σ) := by
  refine i_token_Split (by simp) ?_
  rw [argF_1]
  (repeat' (first|refine Run.ct rfl ?_|((first|refine Run.reg mixed ?_|refine Run.condM ?_|refine Run.retP g_token_Split (Heap.le_refl _) ?_|(refine xo_gs rfl (fun h => ?_) (fun h => ?_) <;> try (cases h; done))) <;> try simp -implicitDefEqProofs only [gtMax, go_sem, Nat.reduceEqDiff, Nat.reduceBEq, Nat.reduceAdd, Nat.reduceLeDiff, reduceIte, reduceCtorEq])|(refine ⟨fun h => ?_, fun h => ?_⟩ <;> first|(cases h; done)|try simp only [h])|fail))
  · have : s.length > 16384 := by simpa using h
    simp [splitA, splitP, this]
  · have hl : ¬ s.length > 16384 := by simpa using h
    refine Run.loopA ?_
    refine Run.loopI ((fun (a0 : AV) => fun (y : Nat × AV × Heap) => put 0 a0 (put 5 (y.2.1) (put 6 (.d (.int .i64 y.1)) U))) _) (fun _ => E) (fun y => y.2.2) (fun y => y.1 ≤ s.length ∧ ∃ acc n, OwnS σ 139 3 (acc.map Tok.enc) y.2.1 y.2.2 ∧ acc.length ≤ y.1 ∧ s.length - y.1 < n ∧ splitP s = splGo n (s.drop y.1) y.1 acc) (fun y => s.length - y.1) ?_ (0, .nils, σ) ⟨by simp, [], s.length + 1, OwnS.nil _ _ _, by simp, by simp, by simp [splitP, hl]⟩
    rintro ⟨i, v, σ1⟩ ⟨hi, acc, n, ho, hac, hn, hs⟩ ih
    simp only at hi ho hac hn hs
    obtain ⟨n, rfl⟩ : ∃ m, n = m + 1 := ⟨n - 1, by omega⟩
    by_cases hlt : i < s.length
    · obtain ⟨x, hx⟩ := ex_at hlt
      rw [drop_at hx, splGo] at hs
      have hw1 := wrap_succ (show i + 1 ≤ 9000000000000000000 by omega)
      have hsl : (x :: s.drop (i + 1)).length = s.length - i := by simp; omega
      cases hb : blaB x.toNat with
      | true =>
        rw [hb] at hs
        (repeat' (first|refine Run.ct rfl ?_|((first|refine Run.reg mixed ?_|refine Run.condM ?_|refine Run.retP g_token_Split (Heap.le_refl _) ?_|refine XCall.det (token_blank_ok _ _) ?_|(refine xo_gs rfl (fun h => ?_) (fun h => ?_) <;> try (cases h; done))) <;> try simp -implicitDefEqProofs only [lt_t hlt, sidx_at hx, hb, hw1, go_sem, Nat.reduceEqDiff, Nat.reduceBEq, Nat.reduceAdd, Nat.reduceLeDiff, reduceIte, reduceCtorEq])|(refine ⟨fun h => ?_, fun h => ?_⟩ <;> first|(cases h; done)|try simp only [h])|fail))
        exact ih (i + 1, v, σ1) ⟨hlt, acc, n, ho, by simp only; omega, by simp only; omega, hs⟩ (by simp only; omega)
      | false =>
        rw [hb, if_neg (by simp)] at hs
        cases hc : (x == 35) with
        | true =>
          rw [hc, if_pos rfl] at hs
          (repeat' (first|refine Run.ct rfl ?_|((first|refine Run.reg mixed ?_|refine Run.condM ?_|refine Run.retP g_token_Split (Heap.le_refl _) ?_|refine XCall.det (token_blank_ok _ _) ?_|(refine xo_gs rfl (fun h => ?_) (fun h => ?_) <;> try (cases h; done))) <;> try simp -implicitDefEqProofs only [lt_t hlt, sidx_at hx, u8eq35, hb, hc, go_sem, Nat.reduceEqDiff, Nat.reduceBEq, Nat.reduceAdd, Nat.reduceLeDiff, reduceIte, reduceCtorEq])|(refine ⟨fun h => ?_, fun h => ?_⟩ <;> first|(cases h; done)|try simp only [h])|fail))
          refine Run.prune [0, 5, 6] ?_; simp -implicitDefEqProofs only [go_sem, Nat.reduceEqDiff, Nat.reduceBEq, Nat.reduceAdd, Nat.reduceLeDiff, reduceIte, reduceCtorEq]
          refine Run.loopA ?_
          refine Run.loopI ((fun (a0 : AV) (a5 : AV) => fun (j : Nat) => put 0 a0 (put 5 a5 (put 6 (.d (.int .i64 j)) U))) _ _) (fun _ => E) (fun _ => σ1) (fun j => i ≤ j ∧ j ≤ s.length ∧ ∀ q b, q < j - i → (s.drop i)[q]? = some b → (!(b == 10)) = true) (fun j => s.length - j) ?_ i ⟨Nat.le_refl i, hi, by intro q b hq; omega⟩
          rintro j ⟨hij, hj, hall⟩ ih2
          have hw2 := wrap_succ (show j + 1 ≤ 9000000000000000000 by omega)
          by_cases hjl : j < s.length
          · obtain ⟨z, hz⟩ := ex_at hjl
            have hz2 : (s.drop i)[j - i]? = some z := by rw [List.getElem?_drop, show i + (j - i) = j by omega]; exact hz
            cases h10 : (z == 10) with
            | true =>
              (repeat' (first|refine Run.ct rfl ?_|((first|refine Run.reg mixed ?_|refine Run.condM ?_|refine Run.retP g_token_Split (Heap.le_refl _) ?_|(refine xo_gs rfl (fun h => ?_) (fun h => ?_) <;> try (cases h; done))) <;> try simp -implicitDefEqProofs only [lt_t hjl, sidx_at hz, u8eq10, h10, go_sem, Nat.reduceEqDiff, Nat.reduceBEq, Nat.reduceAdd, Nat.reduceLeDiff, reduceIte, reduceCtorEq])|(refine ⟨fun h => ?_, fun h => ?_⟩ <;> first|(cases h; done)|try simp only [h])|fail))
              have hk : cmt (x :: s.drop (i + 1)) = j - i := by
                rw [← drop_at hx, cmt, takeWhile_drop hall (by simp; omega) (fun b hb => by rw [hz2] at hb; cases hb; simp [h10])]
                simp; omega
              have hji : j ≠ i := fun e => by
                subst e
                rw [hx] at hz; cases hz
                simp only [beq_iff_eq] at hc h10
                rw [hc] at h10; exact absurd h10 (by decide)
              rw [hk, ← drop_at hx, List.drop_drop, show i + (j - i) = j by omega] at hs
              refine Run.prune [0, 5, 6] ?_; simp -implicitDefEqProofs only [go_sem, Nat.reduceEqDiff, Nat.reduceBEq, Nat.reduceAdd, Nat.reduceLeDiff, reduceIte, reduceCtorEq]
              exact ih (j, v, σ1) ⟨hj, acc, n, ho, by simp only; omega, by simp only; omega, hs⟩ (by simp only; omega)
            | false =>
              (repeat' (first|refine Run.ct rfl ?_|((first|refine Run.reg mixed ?_|refine Run.condM ?_|refine Run.retP g_token_Split (Heap.le_refl _) ?_|(refine xo_gs rfl (fun h => ?_) (fun h => ?_) <;> try (cases h; done))) <;> try simp -implicitDefEqProofs only [lt_t hjl, sidx_at hz, u8eq10, h10, hw2, go_sem, Nat.reduceEqDiff, Nat.reduceBEq, Nat.reduceAdd, Nat.reduceLeDiff, reduceIte, reduceCtorEq])|(refine ⟨fun h => ?_, fun h => ?_⟩ <;> first|(cases h; done)|try simp only [h])|fail))
              refine ih2 (j + 1) ⟨by omega, hjl, fun q b hq hb => ?_⟩ (by omega)
              rcases Nat.lt_or_ge q (j - i) with h2 | h2
              · exact hall q b h2 hb
              · have : q = j - i := by omega
                subst this
                rw [hz2] at hb; cases hb; simp [h10]
          · have hje : j = s.length := by omega
            have hk : cmt (x :: s.drop (i + 1)) = j - i := by
              rw [← drop_at hx, cmt, takeWhile_drop hall (by simp; omega) (fun b hb => by rw [List.getElem?_drop, show i + (j - i) = j by omega, hje] at hb; simp at hb)]
              simp; omega
            rw [hk, ← drop_at hx, List.drop_drop, show i + (j - i) = j by omega, hje, List.drop_length] at hs
            obtain ⟨n, rfl⟩ : ∃ m, n = m + 1 := ⟨n - 1, by omega⟩
            rw [splGo] at hs
            (repeat' (first|refine Run.ct rfl ?_|((first|refine Run.reg mixed ?_|refine Run.condM ?_|(refine XApp.own ho rfl (by simp) (by simp; omega) (by decide) (fun v2 σ2 ho2 hbk => ?_))|(refine Run.retP g_token_Split ho2.le ?_)|refine Run.retP g_token_Split (Heap.le_refl _) ?_|(refine xo_gs rfl (fun h => ?_) (fun h => ?_) <;> try (cases h; done))) <;> try simp -implicitDefEqProofs only [lt_f hjl, go_sem, Nat.reduceEqDiff, Nat.reduceBEq, Nat.reduceAdd, Nat.reduceLeDiff, reduceIte, reduceCtorEq])|(refine ⟨fun h => ?_, fun h => ?_⟩ <;> first|(cases h; done)|try simp only [h])|fail))
            simp -implicitDefEqProofs only [ho2.noLp, ho2.plain, go_sem, Nat.reduceEqDiff, Nat.reduceBEq, Nat.reduceAdd, Nat.reduceLeDiff, reduceIte, reduceCtorEq]
            rw [hs]; simp [splitA, Tok.enc]
        | false =>
          rw [hc, if_neg (by simp)] at hs
          rcases hsc : scanP (x :: s.drop (i + 1)) with e | ⟨k, t⟩
          · rw [hsc] at hs
            have he := scan_err hsc
            have hne : (e != 0) = true := by simp; omega
            (repeat' (first|refine Run.ct rfl ?_|((first|refine Run.reg mixed ?_|refine Run.condM ?_|(refine Run.retP g_token_Split ho.le ?_)|refine Run.retP g_token_Split (Heap.le_refl _) ?_|refine XCall.det (token_blank_ok _ _) ?_|refine XCall.det (token_scan_ok _ _ _ (by omega) hlt) ?_|(refine xo_gs rfl (fun h => ?_) (fun h => ?_) <;> try (cases h; done))) <;> try simp -implicitDefEqProofs only [lt_t hlt, sidx_at hx, u8eq35, hb, hc, drop_at hx, hsc, scanA, tokA, hne, ho.lpOf, Bool.false_eq_true, go_sem, Nat.reduceEqDiff, Nat.reduceBEq, Nat.reduceAdd, Nat.reduceLeDiff, reduceIte, reduceCtorEq])|(refine ⟨fun h => ?_, fun h => ?_⟩ <;> first|(cases h; done)|try simp only [h])|fail))
            rw [hs]; rfl
          · rw [hsc] at hs
            have hsn := scan_len hsc
            rw [hsl] at hsn
            (repeat' (first|refine Run.ct rfl ?_|((first|refine Run.reg mixed ?_|refine Run.condM ?_|(refine XApp.own ho rfl (by simp) (by simp; omega) (by decide) (fun v2 σ2 ho2 hbk => ?_))|refine Run.retP g_token_Split (Heap.le_refl _) ?_|refine XCall.det (token_blank_ok _ _) ?_|refine XCall.det (token_scan_ok _ _ _ (by omega) hlt) ?_|(refine xo_gs rfl (fun h => ?_) (fun h => ?_) <;> try (cases h; done))) <;> try simp -implicitDefEqProofs only [lt_t hlt, sidx_at hx, u8eq35, hb, hc, drop_at hx, hsc, scanA, tokA, ho.lpOf, Bool.false_eq_true, wrap_add (show i + t.length ≤ 9000000000000000000 by omega), go_sem, Nat.reduceEqDiff, Nat.reduceBEq, Nat.reduceAdd, Nat.reduceLeDiff, reduceIte, reduceCtorEq])|(refine ⟨fun h => ?_, fun h => ?_⟩ <;> first|(cases h; done)|try simp only [h])|fail))
            refine ih (i + t.length, v2, σ2) ⟨?_, acc ++ [⟨k, t, i⟩], n, ?_, ?_, ?_, ?_⟩ ?_
            · simp only; omega
            · simpa [Tok.enc] using ho2
            · simp only [List.length_append, List.length_singleton]; omega
            · simp only; omega
            · rw [hs]; simp only; rw [← drop_at hx, List.drop_drop]
            · simp only; omega
    · have hge : i = s.length := by omega
      rw [hge, List.drop_length, splGo] at hs
      (repeat' (first|refine Run.ct rfl ?_|((first|refine Run.reg mixed ?_|refine Run.condM ?_|(refine XApp.own ho rfl (by simp) (by simp; omega) (by decide) (fun v2 σ2 ho2 hbk => ?_))|(refine Run.retP g_token_Split ho2.le ?_)|refine Run.retP g_token_Split (Heap.le_refl _) ?_|(refine xo_gs rfl (fun h => ?_) (fun h => ?_) <;> try (cases h; done))) <;> try simp -implicitDefEqProofs only [lt_f hlt, go_sem, Nat.reduceEqDiff, Nat.reduceBEq, Nat.reduceAdd, Nat.reduceLeDiff, reduceIte, reduceCtorEq])|(refine ⟨fun h => ?_, fun h => ?_⟩ <;> first|(cases h; done)|try simp only [h])|fail))
      simp -implicitDefEqProofs only [ho2.noLp, ho2.plain, go_sem, Nat.reduceEqDiff, Nat.reduceBEq, Nat.reduceAdd, Nat.reduceLeDiff, reduceIte, reduceCtorEq]
      rw [hs]; simp [splitA, Tok.enc]
end Go.Ab

namespace Go.Ab
def singleB (k : Int) (s : Str) : Bool :=
  (splitP s).2.2 == 0 && ((splitP s).1.length == 2 && (match (splitP s).1 with | [] => false | a :: _ => a.kind == k && a.text == s))
def nameB (s : Str) : Bool := singleB 1 s
def upperB (s : Str) : Bool := singleB 2 s
def bindB (s : Str) : Bool := s == [] || nameB s
def shapeTE (k : Int) (n : Str) (len : Nat) : Bool :=
  if k = 1 ∨ k = 2 ∨ k = 3 then n == [] && decide (len = 0)
  else if k = 4 then nameB n && decide (len = 0)
  else if k = 5 then upperB n && decide (len ≤ 6)
  else if k = 6 then n == [] && decide (2 ≤ len) && decide (len ≤ 6)
  else if k = 7 ∨ k = 8 then n == [] && decide (len = 1)
  else if k = 9 then n == [] && decide (1 ≤ len) && decide (len ≤ 7)
  else false
def validTE : Nat → TE → Bool
  | 0, _ => false
  | d + 1, .mk k n l => shapeTE k n l.length && l.all (validTE d)
def conB (c : CE) : Bool := upperB c.name && decide (c.args.length ≤ 6) && c.args.all (validTE 40)
def dataB (d : DE) : Bool := upperB d.name && decide (d.vars.length ≤ 6) && d.vars.all nameB && decide (1 ≤ d.cons.length) && decide (d.cons.length ≤ 8) && d.cons.all conB
def altB : Al → Bool
  | .mk c vs _ => upperB c && decide (vs.length ≤ 6) && vs.all bindB
def nmB (o : Int) (n : Str) : Bool :=
  if o = 4 then nameB n else if o = 6 then upperB n else if o = 7 ∨ o = 17 then bindB n else n == []
def nuB (o : Int) (u : Int) : Bool :=
  if o = 2 then decide (0 ≤ u) && decide (u ≤ 1) else if o = 3 then decide (-1000000 ≤ u) && decide (u ≤ 1000000) else if o = 13 then decide (1 ≤ u) && decide (u ≤ 8)
  else if o = 14 then decide (1 ≤ u) && decide (u ≤ 7) else if o = 15 then decide (-1000 ≤ u) && decide (u ≤ 1000) else u == 0
def nsB (o : Int) (ns : List Str) : Bool :=
  if o = 8 then decide (2 ≤ ns.length) && decide (ns.length ≤ 6) && ns.all bindB else if o = 11 then decide (ns.length ≤ 6) && ns.all nameB else decide (ns.length = 0)
def asB (o : Int) (al : List Al) : Bool :=
  if o = 10 then decide (1 ≤ al.length) && al.all altB else decide (al.length = 0)
def primN (u : Int) : Nat := if u = 1 ∨ u = 2 ∨ u = 7 then 2 else if u = 3 then 3 else if u = 4 ∨ u = 5 ∨ u = 6 then 1 else 0
def nkB (o u : Int) (nk : Nat) : Bool :=
  if o = 1 ∨ o = 2 ∨ o = 3 ∨ o = 4 ∨ o = 15 then decide (nk = 0)
  else if o = 5 then decide (2 ≤ nk) && decide (nk ≤ 6)
  else if o = 6 then decide (nk ≤ 6)
  else if o = 7 ∨ o = 8 ∨ o = 13 ∨ o = 17 then decide (nk = 2)
  else if o = 9 then decide (nk = 3)
  else if o = 10 ∨ o = 11 ∨ o = 16 then decide (nk = 1)
  else if o = 12 then decide (1 ≤ nk) && decide (nk ≤ 7)
  else if o = 14 then decide (nk = primN u)
  else false
def nodeB (o : Int) (n : Str) (u : Int) (ns : List Str) (nk : Nat) (al : List Al) : Bool :=
  nmB o n && nuB o u && nsB o ns && asB o al && nkB o u nk
def vEx : Nat → Nat → Ex → Option Nat
  | 0, _, _ => none
  | d + 1, q, .mk o n u ns ks al =>
    match q with
    | 0 => none
    | q + 1 => if nodeB o n u ns ks.length al then (ks.foldlM (fun q e => vEx d q e) q).bind fun q => al.foldlM (fun q a => match a with | .mk _ _ b => vEx d q b) q else none
def headB (f : FE) : Bool := nameB f.name && decide (f.params.length ≤ 6) && f.params.all nameB
def vFun (q : Nat) (f : FE) : Option Nat := if headB f then vEx 40 q f.body else none
def validB (p : Pg) : Bool := decide (p.data.length ≤ 12) && decide (p.funs.length ≤ 24) && p.data.all dataB && (p.funs.foldlM vFun 600).isSome
end Go.Ab

namespace Go.Ab
def idxP : List Str → Str → Option Nat
  | [], _ => none
  | x :: l, s => if x == s then some 0 else (idxP l s).map (· + 1)
def idxI (o : Option Nat) : Int := match o with | some i => i | none => -1
def twiceB : List Str → Bool
  | [] => false
  | x :: l => (!(x == []) && l.contains x) || twiceB l
def paramsB : List TE → List Str → Bool
  | [], [] => true
  | .mk k n _ :: l, v :: vs => (k == 4 && n == v) && paramsB l vs
  | _, _ => false
mutual
def resP (ds : List (Str × Nat)) (vars : List Str) : Bool → TE → Except Int Ty
  | whole, .mk k n l =>
    if k = 4 then
      match idxP vars n with
      | none => .error 3
      | some i => (resPs ds vars l).map (Ty.mk k i)
    else if k = 5 then
      match idxP (ds.map (·.1)) n with
      | none => .error 3
      | some i =>
        if l.length ≠ (ds.getD i ([], 0)).2 then .error 5
        else if i + 1 = ds.length ∧ ¬ (whole = true ∧ paramsB l vars = true) then .error 7
        else (resPs ds vars l).map (Ty.mk k i)
    else (resPs ds vars l).map (Ty.mk k 0)
def resPs (ds : List (Str × Nat)) (vars : List Str) : List TE → Except Int (List Ty)
  | [] => .ok []
  | t :: l => match resP ds vars false t with
    | .error e => .error e
    | .ok u => (resPs ds vars l).map (u :: ·)
end
def argsP (ds : List (Str × Nat)) (vars : List Str) : List TE → Except Int (List Ty)
  | [] => .ok []
  | t :: l => match resP ds vars true t with
    | .error e => .error e
    | .ok u => (argsP ds vars l).map (u :: ·)
def consP (ds : List (Str × Nat)) (vars : List Str) : List Str → List CE → Except Int (List Con)
  | _, [] => .ok []
  | used, c :: l =>
    if used.contains c.name then .error 4
    else match argsP ds vars c.args with
    | .error e => .error e
    | .ok ts => (consP ds vars (used ++ [c.name]) l).map (⟨c.name, ts⟩ :: ·)
def declP (ds : List (Str × Nat)) (used : List Str) (d : DE) : Except Int Dat :=
  if (ds.map (·.1)).contains d.name || twiceB d.vars then .error 4
  else (consP (ds ++ [(d.name, d.vars.length)]) d.vars used d.cons).map (⟨d.name, d.vars.length, ·⟩)
def headsP (l : List DE) : List (Str × Nat) := l.map fun d => (d.name, d.vars.length)
def usedP (l : List DE) : List Str := l.flatMap fun d => d.cons.map (·.name)
def datGo : List DE → List DE → Except (Int × Nat) (List Dat)
  | _, [] => .ok []
  | done, d :: l => match declP (headsP done) (usedP done) d with
    | .error e => .error (e, done.length)
    | .ok x => (datGo (done ++ [d]) l).map (x :: ·)
abbrev Dg := Int × Int × Int
def dataP (p : Pg) : Except Dg (List Dat) :=
  if validB p then (match datGo [] p.data with | .error (e, i) => .error (e, -1, i) | .ok l => .ok l) else .error (1, -1, 0)
def Ex.op : Ex → Int | .mk o _ _ _ _ _ => o
def Ex.num : Ex → Int | .mk _ _ u _ _ _ => u
def Ex.name : Ex → Str | .mk _ n _ _ _ _ => n
def Ex.names : Ex → List Str | .mk _ _ _ ns _ _ => ns
def Ex.kids : Ex → List Ex | .mk _ _ _ _ ks _ => ks
def Ex.alts : Ex → List Al | .mk _ _ _ _ _ al => al
def Al.con : Al → Str | .mk c _ _ => c
def Al.vars : Al → List Str | .mk _ vs _ => vs
def Al.body : Al → Ex | .mk _ _ b => b
def innP (o : Int) (n : Str) (ns : List Str) (sc : List Str) (i : Nat) : List Str :=
  if (o = 7 ∨ o = 17) ∧ i = 1 then (if n = [] then sc else sc ++ [n])
  else if (o = 8 ∧ i = 1) ∨ o = 11 then sc ++ ns else sc
mutual
def preP : Ex → List Str → List (Ex × List Str)
  | .mk o n u ns ks al, sc => (.mk o n u ns ks al, sc) :: (preKs o n ns sc 0 ks ++ preAs sc al)
def preKs (o : Int) (n : Str) (ns sc : List Str) : Nat → List Ex → List (Ex × List Str)
  | _, [] => []
  | i, k :: l => preP k (innP o n ns sc i) ++ preKs o n ns sc (i + 1) l
def preA : Al → List Str → List (Ex × List Str)
  | .mk _ vs b, sc => preP b (sc ++ vs)
def preAs (sc : List Str) : List Al → List (Ex × List Str)
  | [] => []
  | a :: l => preA a sc ++ preAs sc l
end
def conAt : List Con → Str → Option Nat
  | [], _ => none
  | c :: l, s => if c.name == s then some 0 else (conAt l s).map (· + 1)
def ctrP : List Dat → Str → Option (Nat × Nat)
  | [], _ => none
  | d :: l, s => match conAt d.cons s with
    | some k => some (0, k)
    | none => (ctrP l s).map fun x => (x.1 + 1, x.2)
def arity (dt : List Dat) (x : Nat × Nat) : Nat := match dt[x.1]? with | some d => (match d.cons[x.2]? with | some c => c.args.length | none => 0) | none => 0
def nCons (dt : List Dat) (d : Nat) : Nat := match dt[d]? with | some x => x.cons.length | none => 0
def altsGo (dt : List Dat) : List Al → Except Int (List (Nat × Nat))
  | [] => .ok []
  | .mk c vs _ :: l => match ctrP dt c with
    | none => .error 3
    | some x => if vs.length ≠ arity dt x then .error 5 else if twiceB vs then .error 4 else (altsGo dt l).map (x :: ·)
def exactB (dt : List Dat) : List (Nat × Nat) → Bool
  | [] => true
  | x :: l => (x :: l).all (fun y => y.1 == x.1) && decide ((x :: l).Nodup) && decide ((x :: l).length = nCons dt x.1)
def altsP (dt : List Dat) (l : List Al) : Int := match altsGo dt l with | .error e => e | .ok xs => if exactB dt xs then 0 else 7
def fnames (fs : List FE) : List Str := fs.map (·.name)
def visP (fs : List FE) (dt : List Dat) (e : Ex) (sc : List Str) : Int :=
  if e.op = 4 then (if !sc.contains e.name && (idxP (fnames fs) e.name).isNone then 3 else 0)
  else if e.op = 6 then
    match ctrP dt e.name with
    | none => 3
    | some x => if e.kids.length ≠ arity dt x then 5 else 0
  else if e.op = 8 ∨ e.op = 11 then (if twiceB e.names then 4 else 0)
  else if e.op = 10 then altsP dt e.alts
  else if e.op = 12 then
    match e.kids.head? with
    | none => 0
    | some h => if h.op = 4 && !sc.contains h.name then
        (match idxP (fnames fs) h.name with
        | none => 0
        | some f => match fs[f]? with
          | some g => if g.params.length + 1 ≠ e.kids.length then 5 else 0
          | none => 0) else 0
  else 0
def errP (vis : Ex → List Str → Int) : List (Ex × List Str) → Option (Nat × Int)
  | [] => none
  | x :: l => if vis x.1 x.2 = 0 then (errP vis l).map (fun y => (y.1 + 1, y.2)) else some (0, vis x.1 x.2)
def chkF (fs : List FE) (dt : List Dat) (i : Nat) (f : FE) : Option Dg :=
  if idxP (fnames fs) f.name ≠ some i ∨ twiceB f.params = true then some (4, i, 0)
  else match errP (visP fs dt) (preP f.body f.params) with
    | some (k, c) => some (c, i, k)
    | none => none
def chkGo (fs : List FE) (dt : List Dat) : Nat → List FE → Dg
  | _, [] => (0, 0, 0)
  | i, f :: l => match chkF fs dt i f with
    | some d => d
    | none => chkGo fs dt (i + 1) l
def chkP (p : Pg) : Dg := match dataP p with | .error d => d | .ok dt => chkGo p.funs dt 0 p.funs
def namesF (fs : List FE) (g : Nat) (x : Ex × List Str) : Bool := x.1.op == 4 && (!x.2.contains x.1.name && idxP (fnames fs) x.1.name == some g)
def callF (fs : List FE) (f : FE) : List Nat := (List.range fs.length).filter fun g => (preP f.body f.params).any (namesF fs g)
def callsP (p : Pg) : List (List Nat) := if (chkP p).1 = 0 then p.funs.map (callF p.funs) else []
end Go.Ab
