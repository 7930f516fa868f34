/- Texts of types: the reference, and the law TypingTexts. Conditions: the table of powers of ten is laid. -/
import Derived.Test.YtdbpmhfepfpldaaDoorXHe
set_option linter.unusedSimpArgs false
set_option linter.unusedVariables false
namespace Go.Ab
open Go.Proofs

theorem getLast_txs {data : List Dat} {l : List Ty} {q : Nat} {t : Ty} (ht : l[q]? = some t) : (txs data l)[q]? = some (txT data t) := by
  rw [txs_map, List.getElem?_map, ht]; rfl

set_option maxHeartbeats 4000000 in
theorem r6_format_ok (data : List Dat) (hd : DsOk data) : ∀ (n : Nat) (t : Ty) (σ : Heap), t.size ≤ n → n ≤ 1000 → validT data 101 t = true →
    ACalls Tryd.prog 48 [dsA data, tyA t] σ (fun v σ' => v = .d (.str (txT data t)) ∧ σ' = σ) := by
  intro n
  induction n using Nat.strongRecOn with
  | _ n ih =>
    intro t σ hn hm hval
    obtain ⟨kd, nm, l⟩ := t
    have hsz : (Ty.mk kd nm l).size = 1 + Ty.sizes l := rfl
    have hll := ty_len l
    have hvl : validTs data 101 l = true ∧ shapeOk data 101 kd nm l.length = true := by
      simp only [validT, Bool.and_eq_true] at hval; exact ⟨hval.2, hval.1⟩
    have hsl := txs_len hd hvl.1
    have hv4 := valid_var4 hval
    have hnode : txT data (.mk kd nm l) = node data kd nm (txs data l) := rfl
    refine i_r6_format (by simp) ?_
    rw [argF_2, dsA]
    -- how many arguments stand inside the brackets
    obtain ⟨last, hlast, hll2⟩ : ∃ last : Nat, last = (if kd = 9 then l.length - 1 else l.length) ∧ last ≤ l.length := ⟨_, rfl, by split <;> omega⟩
    have h9 : kd = 9 → 1 ≤ l.length := fun h => by
      have hsh := hvl.2
      rw [h] at hsh
      simp [shapeOk] at hsh; omega
    have hstart : Run x_r6_format (fun v σ' => v = .d (.str (txT data (.mk kd nm l))) ∧ σ' = σ) [.again c_r6_format_L0, .blk 0, .code ((.seq (.seq (.reg [⟨some 34, .fld (.t 3) 0, none⟩,
             ⟨some 35, .ldl (.t 34) none, none⟩] [0, 3, 5, 6, 35])
         (.block 2 (.seq (.reg [⟨some 37, .bin .eql (.t 35) (.c (.d (.int .i64 1))), none⟩,
               ⟨some 36, .mv (.t 37), none⟩] [0, 3, 5, 6, 35, 36])
           (.cond (.t 36) (.seq (.reg [⟨some 4, .mv (.c (.d (.str [105, 110, 116]))), none⟩] [4])
             .ret)
            (.seq (.reg [⟨some 39, .bin .eql (.t 35) (.c (.d (.int .i64 2))), none⟩,
                 ⟨some 38, .mv (.t 39), none⟩] [0, 3, 5, 6, 35, 38])
             (.cond (.t 38) (.seq (.reg [⟨some 4, .mv (.c (.d (.str [98, 111, 111, 108]))), none⟩] [4])
               .ret)
              (.seq (.reg [⟨some 41, .bin .eql (.t 35) (.c (.d (.int .i64 3))), none⟩,
                   ⟨some 40, .mv (.t 41), none⟩] [0, 3, 5, 6, 35, 40])
               (.cond (.t 40) (.seq (.reg [⟨some 4, .mv (.c (.d (.str [117, 110, 105, 116]))), none⟩] [4])
                 .ret)
                (.seq (.reg [⟨some 43, .bin .eql (.t 35) (.c (.d (.int .i64 4))), none⟩,
                     ⟨some 42, .mv (.t 43), none⟩] [0, 3, 5, 6, 35, 42])
                 (.cond (.t 42) (.seq (.reg [⟨some 44, .fld (.t 3) 1, none⟩,
                       ⟨some 45, .ldl (.t 44) none, none⟩,
                       ⟨some 46, .call 81 [(.t 45)], none⟩,
                       ⟨some 47, .bin .add (.c (.d (.str [97]))) (.t 46), none⟩,
                       ⟨some 4, .mv (.t 47), none⟩] [4])
                   .ret)
                  (.seq (.reg [⟨some 49, .bin .eql (.t 35) (.c (.d (.int .i64 5))), none⟩,
                       ⟨some 48, .mv (.t 49), none⟩] [0, 3, 5, 6, 35, 48])
                   (.cond (.t 48) (.seq (.seq (.reg [⟨some 50, .mv (.t 6), none⟩,
                          ⟨some 51, .bin .eql (.t 50) (.c (.d (.int .i64 0))), none⟩] [0, 3, 5, 51])
                      (.cond (.t 51) (.seq (.reg [⟨some 52, .mv (.t 0), none⟩,
                            ⟨some 53, .fld (.t 3) 1, none⟩,
                            ⟨some 54, .ldl (.t 53) none, none⟩,
                            ⟨some 55, .ix (.t 52) (.t 54) 3, none⟩,
                            ⟨some 56, .fld (.t 55) 0, none⟩,
                            ⟨some 57, .ld (.t 56) none, none⟩,
                            ⟨some 4, .mv (.t 57), none⟩] [4])
                        .ret)
                       .skip))
                     (.seq (.reg [⟨some 58, .mv (.t 0), none⟩,
                          ⟨some 59, .fld (.t 3) 1, none⟩,
                          ⟨some 60, .ldl (.t 59) none, none⟩,
                          ⟨some 61, .ix (.t 58) (.t 60) 3, none⟩,
                          ⟨some 62, .fld (.t 61) 0, none⟩,
                          ⟨some 63, .ld (.t 62) none, none⟩,
                          ⟨some 64, .bin .add (.t 63) (.c (.d (.str [40]))), none⟩,
                          ⟨some 65, .mv (.t 5), none⟩,
                          ⟨some 66, .bin .add (.t 64) (.t 65), none⟩,
                          ⟨some 67, .bin .add (.t 66) (.c (.d (.str [41]))), none⟩,
                          ⟨some 4, .mv (.t 67), none⟩] [4])
                      .ret))
                    (.seq (.reg [⟨some 69, .bin .eql (.t 35) (.c (.d (.int .i64 7))), none⟩,
                         ⟨some 68, .mv (.t 69), none⟩] [0, 3, 5, 6, 35, 68])
                     (.cond (.t 68) (.seq (.reg [⟨some 70, .mv (.t 5), none⟩,
                           ⟨some 71, .bin .add (.c (.d (.str [97, 114, 114, 97, 121, 40]))) (.t 70), none⟩,
                           ⟨some 72, .bin .add (.t 71) (.c (.d (.str [41]))), none⟩,
                           ⟨some 4, .mv (.t 72), none⟩] [4])
                       .ret)
                      (.seq (.reg [⟨some 74, .bin .eql (.t 35) (.c (.d (.int .i64 8))), none⟩,
                           ⟨some 73, .mv (.t 74), none⟩] [0, 3, 5, 6, 35, 73])
                       (.cond (.t 73) (.seq (.reg [⟨some 75, .mv (.t 5), none⟩,
                             ⟨some 76, .bin .add (.c (.d (.str [114, 101, 102, 40]))) (.t 75), none⟩,
                             ⟨some 77, .bin .add (.t 76) (.c (.d (.str [41]))), none⟩,
                             ⟨some 4, .mv (.t 77), none⟩] [4])
                         .ret)
                        (.seq (.reg [⟨some 79, .bin .eql (.t 35) (.c (.d (.int .i64 9))), none⟩,
                             ⟨some 78, .mv (.t 79), none⟩] [0, 3, 5, 6, 78])
                         (.cond (.t 78) (.seq (.reg [⟨some 80, .mv (.t 5), none⟩,
                               ⟨some 81, .bin .add (.c (.d (.str [102, 110, 40]))) (.t 80), none⟩,
                               ⟨some 82, .bin .add (.t 81) (.c (.d (.str [41, 32, 45, 62, 32]))), none⟩,
                               ⟨some 83, .mv (.t 0), none⟩,
                               ⟨some 84, .fld (.t 3) 2, none⟩,
                               ⟨some 85, .ldl (.t 84) none, none⟩,
                               ⟨some 86, .mv (.t 6), none⟩,
                               ⟨some 87, .ix (.t 85) (.t 86) 3, none⟩,
                               ⟨some 88, .ld (.t 87) (some 3), none⟩,
                               ⟨some 89, .call 48 [(.t 83), (.t 88)], none⟩,
                               ⟨some 90, .bin .add (.t 82) (.t 89), none⟩,
                               ⟨some 4, .mv (.t 90), none⟩] [4])
                           .ret)
                          .skip))))))))))))))))))
        (.seq (.reg [⟨some 91, .mv (.t 5), none⟩,
             ⟨some 92, .bin .add (.c (.d (.str [40]))) (.t 91), none⟩,
             ⟨some 93, .bin .add (.t 92) (.c (.d (.str [41]))), none⟩,
             ⟨some 4, .mv (.t 93), none⟩] [4])
         .ret)))] (put 0 (.d (.sl (data.map Dat.enc))) (put 3 (.lp 3 0) (put 5 (.d (.str [])) (put 6 (.d (.int .i64 last)) (put 7 (.d (.int .i64 ((0 : Nat) : Int))) U))))) (putL 3 [.d (.int .i64 kd), .d (.int .i64 nm), .d (.sl (Ty.encs l))] E) σ := by
      refine Run.loopI (fun y : Nat × List UInt8 => put 0 (.d (.sl (data.map Dat.enc))) (put 3 (.lp 3 0) (put 5 (.d (.str y.2)) (put 6 (.d (.int .i64 last)) (put 7 (.d (.int .i64 (y.1 : Int))) U))))) (fun _ => putL 3 [.d (.int .i64 kd), .d (.int .i64 nm), .d (.sl (Ty.encs l))] E) (fun _ => σ)
        (fun y => y.1 ≤ last ∧ y.2 = Lib.join (txs data (l.take y.1)) sepB) (fun y => last - y.1) ?_ (0, []) ⟨by simp, by simp [txs, Lib.join_nil]⟩
      rintro ⟨i, s⟩ ⟨hi, hs⟩ ih2
      simp only at hi hs
      have hst := sumLen_take (txs data l) i
      rw [txs_take] at hst
      have hjl := join_len (txs data (l.take i))
      rw [← hs] at hjl
      by_cases hlt : i < last
      · obtain ⟨t', ht⟩ := ex_at (show i < l.length by omega)
        have hs1 : Ty.sizes (l.take (i + 1)) = Ty.sizes (l.take i) + t'.size := by rw [take_snoc ht, sizes_snoc]
        have hs2 := sizes_take l (i + 1)
        have hx1 : txs data (l.take (i + 1)) = txs data (l.take i) ++ [txT data t'] := by rw [take_snoc ht, txs_snoc]
        have hvt := validTs_mem hvl.1 (List.mem_of_getElem? ht)
        have htl := txT_len hd hvt
        obtain ⟨kd', nm', al⟩ := t'
        have he := encs_at ht
        have hw1 := wrap_succ (show i + 1 ≤ 9000000000000000000 by omega)
        have hcall := ih ((Ty.mk kd' nm' al).size) (by omega) (.mk kd' nm' al) σ (Nat.le_refl _) (by omega) hvt
        have hjs := join_snoc (txT data (.mk kd' nm' al)) (txs data (l.take i))
        rw [← hx1, ← hs] at hjs
        rcases Nat.eq_zero_or_pos i with h0 | h0
        · have c0 : decide ((0 : Int) < (i : Int)) = false := by simp; omega
          (repeat' (first
      | refine Run.seq ?_
      | refine Run.skip ?_
      | refine Run.block ?_
      | refine Run.blk ?_
      | refine Run.scope ?_
      | refine Run.scp ?_
      | (refine Run.exit rfl ?_)
      | (refine Run.reg mixed ?_; simp -implicitDefEqProofs only [lt_t hlt, he, hw1, c0, rs_r6_format, Bool.not_eq_true', Bool.not_eq_false', go_sem, eq_self, Nat.reduceEqDiff, Nat.reduceBEq, Nat.reduceAdd, Nat.reduceLeDiff, reduceIte, reduceCtorEq, tysA, tyA, Ty.enc, Ty.encs])
      | (refine Run.condM ?_; simp -implicitDefEqProofs only [lt_t hlt, he, hw1, c0, rs_r6_format, Bool.not_eq_true', Bool.not_eq_false', go_sem, eq_self, Nat.reduceEqDiff, Nat.reduceBEq, Nat.reduceAdd, Nat.reduceLeDiff, reduceIte, reduceCtorEq, tysA, tyA, Ty.enc, Ty.encs])
      | (refine XPv.strAdd (by (try simp only [List.length_append, List.length_cons, List.length_nil]); omega) ?_; (try simp -implicitDefEqProofs only [lt_t hlt, he, hw1, c0, rs_r6_format, Bool.not_eq_true', Bool.not_eq_false', go_sem, eq_self, Nat.reduceEqDiff, Nat.reduceBEq, Nat.reduceAdd, Nat.reduceLeDiff, reduceIte, reduceCtorEq, tysA, tyA, Ty.enc, Ty.encs]))
      | (refine XCall.det (hcall) ?_; simp -implicitDefEqProofs only [lt_t hlt, he, hw1, c0, rs_r6_format, Bool.not_eq_true', Bool.not_eq_false', go_sem, eq_self, Nat.reduceEqDiff, Nat.reduceBEq, Nat.reduceAdd, Nat.reduceLeDiff, reduceIte, reduceCtorEq, tysA, tyA, Ty.enc, Ty.encs])
      | (refine xo_gs rfl (fun h => ?_) (fun h => ?_) <;> first | (cases h; done) | simp -implicitDefEqProofs only [lt_t hlt, he, hw1, c0, rs_r6_format, Bool.not_eq_true', Bool.not_eq_false', go_sem, eq_self, Nat.reduceEqDiff, Nat.reduceBEq, Nat.reduceAdd, Nat.reduceLeDiff, reduceIte, reduceCtorEq, tysA, tyA, Ty.enc, Ty.encs])
      | (refine ⟨fun h => ?_, fun h => ?_⟩ <;> first | (cases h; done) | (simp -implicitDefEqProofs only [h]; done) | (try simp -implicitDefEqProofs only [h]))
      | fail))
          refine ih2 (i + 1, _) ⟨by simp only; omega, ?_⟩ (by simp only; omega)
          simp only
          have hemp : txs data (l.take i) = [] := by rw [h0]; rfl
          rw [hjs, if_pos hemp, hs, hemp]
          simp [Lib.join_nil]
        · have c0 : decide ((0 : Int) < (i : Int)) = true := by simp; omega
          (repeat' (first
      | refine Run.seq ?_
      | refine Run.skip ?_
      | refine Run.block ?_
      | refine Run.blk ?_
      | refine Run.scope ?_
      | refine Run.scp ?_
      | (refine Run.exit rfl ?_)
      | (refine Run.reg mixed ?_; simp -implicitDefEqProofs only [lt_t hlt, he, hw1, c0, rs_r6_format, Bool.not_eq_true', Bool.not_eq_false', go_sem, eq_self, Nat.reduceEqDiff, Nat.reduceBEq, Nat.reduceAdd, Nat.reduceLeDiff, reduceIte, reduceCtorEq, tysA, tyA, Ty.enc, Ty.encs])
      | (refine Run.condM ?_; simp -implicitDefEqProofs only [lt_t hlt, he, hw1, c0, rs_r6_format, Bool.not_eq_true', Bool.not_eq_false', go_sem, eq_self, Nat.reduceEqDiff, Nat.reduceBEq, Nat.reduceAdd, Nat.reduceLeDiff, reduceIte, reduceCtorEq, tysA, tyA, Ty.enc, Ty.encs])
      | (refine XPv.strAdd (by (try simp only [List.length_append, List.length_cons, List.length_nil]); omega) ?_; (try simp -implicitDefEqProofs only [lt_t hlt, he, hw1, c0, rs_r6_format, Bool.not_eq_true', Bool.not_eq_false', go_sem, eq_self, Nat.reduceEqDiff, Nat.reduceBEq, Nat.reduceAdd, Nat.reduceLeDiff, reduceIte, reduceCtorEq, tysA, tyA, Ty.enc, Ty.encs]))
      | (refine XCall.det (hcall) ?_; simp -implicitDefEqProofs only [lt_t hlt, he, hw1, c0, rs_r6_format, Bool.not_eq_true', Bool.not_eq_false', go_sem, eq_self, Nat.reduceEqDiff, Nat.reduceBEq, Nat.reduceAdd, Nat.reduceLeDiff, reduceIte, reduceCtorEq, tysA, tyA, Ty.enc, Ty.encs])
      | (refine xo_gs rfl (fun h => ?_) (fun h => ?_) <;> first | (cases h; done) | simp -implicitDefEqProofs only [lt_t hlt, he, hw1, c0, rs_r6_format, Bool.not_eq_true', Bool.not_eq_false', go_sem, eq_self, Nat.reduceEqDiff, Nat.reduceBEq, Nat.reduceAdd, Nat.reduceLeDiff, reduceIte, reduceCtorEq, tysA, tyA, Ty.enc, Ty.encs])
      | (refine ⟨fun h => ?_, fun h => ?_⟩ <;> first | (cases h; done) | (simp -implicitDefEqProofs only [h]; done) | (try simp -implicitDefEqProofs only [h]))
      | fail))
          refine ih2 (i + 1, _) ⟨by simp only; omega, ?_⟩ (by simp only; omega)
          simp only
          have hne : txs data (l.take i) ≠ [] := fun h => by
            have := txs_length data (l.take i)
            rw [h, List.length_nil, List.length_take] at this; omega
          rw [hjs, if_neg hne]
          simp [sepB]
      have hil : i = last := by omega
      subst hil

      by_cases k1 : kd = 1
      · subst k1
        have e1 : ((1 : Int) == 1) = true := by decide
        have e2 : ((1 : Int) == 2) = false := by decide
        have e3 : ((1 : Int) == 3) = false := by decide
        have e4 : ((1 : Int) == 4) = false := by decide
        have e5 : ((1 : Int) == 5) = false := by decide
        have e6 : ((1 : Int) == 6) = false := by decide
        have e7 : ((1 : Int) == 7) = false := by decide
        have e8 : ((1 : Int) == 8) = false := by decide
        have e9 : ((1 : Int) == 9) = false := by decide
        have hfull : s = Lib.join (txs data l) sepB := by rw [hs, hlast, if_neg (by decide), List.take_length]
        (repeat' (first
      | refine Run.seq ?_
      | refine Run.skip ?_
      | refine Run.block ?_
      | refine Run.blk ?_
      | refine Run.scope ?_
      | refine Run.scp ?_
      | (refine Run.exit rfl ?_)
      | (refine Run.reg mixed ?_; simp -implicitDefEqProofs only [lt_f hlt, e1, e2, e3, e4, e5, e6, e7, e8, e9, rs_r6_format, Bool.not_eq_true', Bool.not_eq_false', go_sem, eq_self, Nat.reduceEqDiff, Nat.reduceBEq, Nat.reduceAdd, Nat.reduceLeDiff, reduceIte, reduceCtorEq, tysA, tyA, Ty.enc, Ty.encs])
      | (refine Run.condM ?_; simp -implicitDefEqProofs only [lt_f hlt, e1, e2, e3, e4, e5, e6, e7, e8, e9, rs_r6_format, Bool.not_eq_true', Bool.not_eq_false', go_sem, eq_self, Nat.reduceEqDiff, Nat.reduceBEq, Nat.reduceAdd, Nat.reduceLeDiff, reduceIte, reduceCtorEq, tysA, tyA, Ty.enc, Ty.encs])
      | (refine XPv.strAdd (by (try simp only [List.length_append, List.length_cons, List.length_nil]); omega) ?_; (try simp -implicitDefEqProofs only [lt_f hlt, e1, e2, e3, e4, e5, e6, e7, e8, e9, rs_r6_format, Bool.not_eq_true', Bool.not_eq_false', go_sem, eq_self, Nat.reduceEqDiff, Nat.reduceBEq, Nat.reduceAdd, Nat.reduceLeDiff, reduceIte, reduceCtorEq, tysA, tyA, Ty.enc, Ty.encs]))
      | (refine Run.retP g_r6_format (Heap.le_refl _) ?_; simp -implicitDefEqProofs only [rs_r6_format, lt_f hlt, e1, e2, e3, e4, e5, e6, e7, e8, e9, go_sem, eq_self, Nat.reduceEqDiff, Nat.reduceBEq, Nat.reduceAdd, Nat.reduceLeDiff, reduceIte, reduceCtorEq, tysA, tyA, Ty.enc, Ty.encs])
      | (refine xo_gs rfl (fun h => ?_) (fun h => ?_) <;> first | (cases h; done) | simp -implicitDefEqProofs only [lt_f hlt, e1, e2, e3, e4, e5, e6, e7, e8, e9, rs_r6_format, Bool.not_eq_true', Bool.not_eq_false', go_sem, eq_self, Nat.reduceEqDiff, Nat.reduceBEq, Nat.reduceAdd, Nat.reduceLeDiff, reduceIte, reduceCtorEq, tysA, tyA, Ty.enc, Ty.encs])
      | (refine ⟨fun h => ?_, fun h => ?_⟩ <;> first | (cases h; done) | (simp -implicitDefEqProofs only [h]; done) | (try simp -implicitDefEqProofs only [h]))
      | fail))
        rw [hnode]
        simp [node]
      by_cases k2 : kd = 2
      · subst k2
        have e1 : ((2 : Int) == 1) = false := by decide
        have e2 : ((2 : Int) == 2) = true := by decide
        have e3 : ((2 : Int) == 3) = false := by decide
        have e4 : ((2 : Int) == 4) = false := by decide
        have e5 : ((2 : Int) == 5) = false := by decide
        have e6 : ((2 : Int) == 6) = false := by decide
        have e7 : ((2 : Int) == 7) = false := by decide
        have e8 : ((2 : Int) == 8) = false := by decide
        have e9 : ((2 : Int) == 9) = false := by decide
        have hfull : s = Lib.join (txs data l) sepB := by rw [hs, hlast, if_neg (by decide), List.take_length]
        (repeat' (first
      | refine Run.seq ?_
      | refine Run.skip ?_
      | refine Run.block ?_
      | refine Run.blk ?_
      | refine Run.scope ?_
      | refine Run.scp ?_
      | (refine Run.exit rfl ?_)
      | (refine Run.reg mixed ?_; simp -implicitDefEqProofs only [lt_f hlt, e1, e2, e3, e4, e5, e6, e7, e8, e9, rs_r6_format, Bool.not_eq_true', Bool.not_eq_false', go_sem, eq_self, Nat.reduceEqDiff, Nat.reduceBEq, Nat.reduceAdd, Nat.reduceLeDiff, reduceIte, reduceCtorEq, tysA, tyA, Ty.enc, Ty.encs])
      | (refine Run.condM ?_; simp -implicitDefEqProofs only [lt_f hlt, e1, e2, e3, e4, e5, e6, e7, e8, e9, rs_r6_format, Bool.not_eq_true', Bool.not_eq_false', go_sem, eq_self, Nat.reduceEqDiff, Nat.reduceBEq, Nat.reduceAdd, Nat.reduceLeDiff, reduceIte, reduceCtorEq, tysA, tyA, Ty.enc, Ty.encs])
      | (refine XPv.strAdd (by (try simp only [List.length_append, List.length_cons, List.length_nil]); omega) ?_; (try simp -implicitDefEqProofs only [lt_f hlt, e1, e2, e3, e4, e5, e6, e7, e8, e9, rs_r6_format, Bool.not_eq_true', Bool.not_eq_false', go_sem, eq_self, Nat.reduceEqDiff, Nat.reduceBEq, Nat.reduceAdd, Nat.reduceLeDiff, reduceIte, reduceCtorEq, tysA, tyA, Ty.enc, Ty.encs]))
      | (refine Run.retP g_r6_format (Heap.le_refl _) ?_; simp -implicitDefEqProofs only [rs_r6_format, lt_f hlt, e1, e2, e3, e4, e5, e6, e7, e8, e9, go_sem, eq_self, Nat.reduceEqDiff, Nat.reduceBEq, Nat.reduceAdd, Nat.reduceLeDiff, reduceIte, reduceCtorEq, tysA, tyA, Ty.enc, Ty.encs])
      | (refine xo_gs rfl (fun h => ?_) (fun h => ?_) <;> first | (cases h; done) | simp -implicitDefEqProofs only [lt_f hlt, e1, e2, e3, e4, e5, e6, e7, e8, e9, rs_r6_format, Bool.not_eq_true', Bool.not_eq_false', go_sem, eq_self, Nat.reduceEqDiff, Nat.reduceBEq, Nat.reduceAdd, Nat.reduceLeDiff, reduceIte, reduceCtorEq, tysA, tyA, Ty.enc, Ty.encs])
      | (refine ⟨fun h => ?_, fun h => ?_⟩ <;> first | (cases h; done) | (simp -implicitDefEqProofs only [h]; done) | (try simp -implicitDefEqProofs only [h]))
      | fail))
        rw [hnode]
        simp [node]
      by_cases k3 : kd = 3
      · subst k3
        have e1 : ((3 : Int) == 1) = false := by decide
        have e2 : ((3 : Int) == 2) = false := by decide
        have e3 : ((3 : Int) == 3) = true := by decide
        have e4 : ((3 : Int) == 4) = false := by decide
        have e5 : ((3 : Int) == 5) = false := by decide
        have e6 : ((3 : Int) == 6) = false := by decide
        have e7 : ((3 : Int) == 7) = false := by decide
        have e8 : ((3 : Int) == 8) = false := by decide
        have e9 : ((3 : Int) == 9) = false := by decide
        have hfull : s = Lib.join (txs data l) sepB := by rw [hs, hlast, if_neg (by decide), List.take_length]
        (repeat' (first
      | refine Run.seq ?_
      | refine Run.skip ?_
      | refine Run.block ?_
      | refine Run.blk ?_
      | refine Run.scope ?_
      | refine Run.scp ?_
      | (refine Run.exit rfl ?_)
      | (refine Run.reg mixed ?_; simp -implicitDefEqProofs only [lt_f hlt, e1, e2, e3, e4, e5, e6, e7, e8, e9, rs_r6_format, Bool.not_eq_true', Bool.not_eq_false', go_sem, eq_self, Nat.reduceEqDiff, Nat.reduceBEq, Nat.reduceAdd, Nat.reduceLeDiff, reduceIte, reduceCtorEq, tysA, tyA, Ty.enc, Ty.encs])
      | (refine Run.condM ?_; simp -implicitDefEqProofs only [lt_f hlt, e1, e2, e3, e4, e5, e6, e7, e8, e9, rs_r6_format, Bool.not_eq_true', Bool.not_eq_false', go_sem, eq_self, Nat.reduceEqDiff, Nat.reduceBEq, Nat.reduceAdd, Nat.reduceLeDiff, reduceIte, reduceCtorEq, tysA, tyA, Ty.enc, Ty.encs])
      | (refine XPv.strAdd (by (try simp only [List.length_append, List.length_cons, List.length_nil]); omega) ?_; (try simp -implicitDefEqProofs only [lt_f hlt, e1, e2, e3, e4, e5, e6, e7, e8, e9, rs_r6_format, Bool.not_eq_true', Bool.not_eq_false', go_sem, eq_self, Nat.reduceEqDiff, Nat.reduceBEq, Nat.reduceAdd, Nat.reduceLeDiff, reduceIte, reduceCtorEq, tysA, tyA, Ty.enc, Ty.encs]))
      | (refine Run.retP g_r6_format (Heap.le_refl _) ?_; simp -implicitDefEqProofs only [rs_r6_format, lt_f hlt, e1, e2, e3, e4, e5, e6, e7, e8, e9, go_sem, eq_self, Nat.reduceEqDiff, Nat.reduceBEq, Nat.reduceAdd, Nat.reduceLeDiff, reduceIte, reduceCtorEq, tysA, tyA, Ty.enc, Ty.encs])
      | (refine xo_gs rfl (fun h => ?_) (fun h => ?_) <;> first | (cases h; done) | simp -implicitDefEqProofs only [lt_f hlt, e1, e2, e3, e4, e5, e6, e7, e8, e9, rs_r6_format, Bool.not_eq_true', Bool.not_eq_false', go_sem, eq_self, Nat.reduceEqDiff, Nat.reduceBEq, Nat.reduceAdd, Nat.reduceLeDiff, reduceIte, reduceCtorEq, tysA, tyA, Ty.enc, Ty.encs])
      | (refine ⟨fun h => ?_, fun h => ?_⟩ <;> first | (cases h; done) | (simp -implicitDefEqProofs only [h]; done) | (try simp -implicitDefEqProofs only [h]))
      | fail))
        rw [hnode]
        simp [node]
      by_cases k4 : kd = 4
      · subst k4
        have e1 : ((4 : Int) == 1) = false := by decide
        have e2 : ((4 : Int) == 2) = false := by decide
        have e3 : ((4 : Int) == 3) = false := by decide
        have e4 : ((4 : Int) == 4) = true := by decide
        have e5 : ((4 : Int) == 5) = false := by decide
        have e6 : ((4 : Int) == 6) = false := by decide
        have e7 : ((4 : Int) == 7) = false := by decide
        have e8 : ((4 : Int) == 8) = false := by decide
        have e9 : ((4 : Int) == 9) = false := by decide
        have hfull : s = Lib.join (txs data l) sepB := by rw [hs, hlast, if_neg (by decide), List.take_length]
        have hnn := hv4 rfl
        have hit := itoa_len (n := nm) ⟨by omega, by omega⟩
        (repeat' (first
      | refine Run.seq ?_
      | refine Run.skip ?_
      | refine Run.block ?_
      | refine Run.blk ?_
      | refine Run.scope ?_
      | refine Run.scp ?_
      | (refine Run.exit rfl ?_)
      | (refine Run.reg mixed ?_; simp -implicitDefEqProofs only [lt_f hlt, e1, e2, e3, e4, e5, e6, e7, e8, e9, rs_r6_format, Bool.not_eq_true', Bool.not_eq_false', go_sem, eq_self, Nat.reduceEqDiff, Nat.reduceBEq, Nat.reduceAdd, Nat.reduceLeDiff, reduceIte, reduceCtorEq, tysA, tyA, Ty.enc, Ty.encs])
      | (refine Run.condM ?_; simp -implicitDefEqProofs only [lt_f hlt, e1, e2, e3, e4, e5, e6, e7, e8, e9, rs_r6_format, Bool.not_eq_true', Bool.not_eq_false', go_sem, eq_self, Nat.reduceEqDiff, Nat.reduceBEq, Nat.reduceAdd, Nat.reduceLeDiff, reduceIte, reduceCtorEq, tysA, tyA, Ty.enc, Ty.encs])
      | (refine XPv.strAdd (by (try simp only [List.length_append, List.length_cons, List.length_nil]); omega) ?_; (try simp -implicitDefEqProofs only [lt_f hlt, e1, e2, e3, e4, e5, e6, e7, e8, e9, rs_r6_format, Bool.not_eq_true', Bool.not_eq_false', go_sem, eq_self, Nat.reduceEqDiff, Nat.reduceBEq, Nat.reduceAdd, Nat.reduceLeDiff, reduceIte, reduceCtorEq, tysA, tyA, Ty.enc, Ty.encs]))
      | (refine Run.retP g_r6_format (Heap.le_refl _) ?_; simp -implicitDefEqProofs only [rs_r6_format, lt_f hlt, e1, e2, e3, e4, e5, e6, e7, e8, e9, go_sem, eq_self, Nat.reduceEqDiff, Nat.reduceBEq, Nat.reduceAdd, Nat.reduceLeDiff, reduceIte, reduceCtorEq, tysA, tyA, Ty.enc, Ty.encs])
      | (refine XCall.det (number6_ok nm _ (by omega) (by omega)) ?_; simp -implicitDefEqProofs only [lt_f hlt, e1, e2, e3, e4, e5, e6, e7, e8, e9, rs_r6_format, Bool.not_eq_true', Bool.not_eq_false', go_sem, eq_self, Nat.reduceEqDiff, Nat.reduceBEq, Nat.reduceAdd, Nat.reduceLeDiff, reduceIte, reduceCtorEq, tysA, tyA, Ty.enc, Ty.encs])
      | (refine xo_gs rfl (fun h => ?_) (fun h => ?_) <;> first | (cases h; done) | simp -implicitDefEqProofs only [lt_f hlt, e1, e2, e3, e4, e5, e6, e7, e8, e9, rs_r6_format, Bool.not_eq_true', Bool.not_eq_false', go_sem, eq_self, Nat.reduceEqDiff, Nat.reduceBEq, Nat.reduceAdd, Nat.reduceLeDiff, reduceIte, reduceCtorEq, tysA, tyA, Ty.enc, Ty.encs])
      | (refine ⟨fun h => ?_, fun h => ?_⟩ <;> first | (cases h; done) | (simp -implicitDefEqProofs only [h]; done) | (try simp -implicitDefEqProofs only [h]))
      | fail))
        rw [hnode]
        simp [node]
      by_cases k5 : kd = 5
      · subst k5
        have e1 : ((5 : Int) == 1) = false := by decide
        have e2 : ((5 : Int) == 2) = false := by decide
        have e3 : ((5 : Int) == 3) = false := by decide
        have e4 : ((5 : Int) == 4) = false := by decide
        have e5 : ((5 : Int) == 5) = true := by decide
        have e6 : ((5 : Int) == 6) = false := by decide
        have e7 : ((5 : Int) == 7) = false := by decide
        have e8 : ((5 : Int) == 8) = false := by decide
        have e9 : ((5 : Int) == 9) = false := by decide
        have hfull : s = Lib.join (txs data l) sepB := by rw [hs, hlast, if_neg (by decide), List.take_length]
        have hsh := hvl.2
        simp [shapeOk] at hsh
        obtain ⟨hn0, hsh⟩ := hsh
        obtain ⟨p, rfl⟩ : ∃ p : Nat, nm = p := ⟨nm.toNat, by omega⟩
        simp only [Int.toNat_natCast] at hsh
        have hlast5 : i = l.length := by rw [hlast, if_neg (by decide)]
        cases hdp : data[p]? with
        | none => rw [hdp] at hsh; simp at hsh
        | some d =>
          have hd' := dats_at hdp
          have hname : nameOf data (p : Int) = d.name := by simp [nameOf, hdp]
          have hdl : d.name.length ≤ 40 := hd.2 d (List.mem_of_getElem? hdp)
          cases hl0 : (i == 0) with
          | true =>
            (repeat' (first
      | refine Run.seq ?_
      | refine Run.skip ?_
      | refine Run.block ?_
      | refine Run.blk ?_
      | refine Run.scope ?_
      | refine Run.scp ?_
      | (refine Run.exit rfl ?_)
      | (refine Run.reg mixed ?_; simp -implicitDefEqProofs only [lt_f hlt, e1, e2, e3, e4, e5, e6, e7, e8, e9, len_eq0, hl0, hd', rs_r6_format, Bool.not_eq_true', Bool.not_eq_false', go_sem, eq_self, Nat.reduceEqDiff, Nat.reduceBEq, Nat.reduceAdd, Nat.reduceLeDiff, reduceIte, reduceCtorEq, tysA, tyA, Ty.enc, Ty.encs])
      | (refine Run.condM ?_; simp -implicitDefEqProofs only [lt_f hlt, e1, e2, e3, e4, e5, e6, e7, e8, e9, len_eq0, hl0, hd', rs_r6_format, Bool.not_eq_true', Bool.not_eq_false', go_sem, eq_self, Nat.reduceEqDiff, Nat.reduceBEq, Nat.reduceAdd, Nat.reduceLeDiff, reduceIte, reduceCtorEq, tysA, tyA, Ty.enc, Ty.encs])
      | (refine XPv.strAdd (by (try simp only [List.length_append, List.length_cons, List.length_nil]); omega) ?_; (try simp -implicitDefEqProofs only [lt_f hlt, e1, e2, e3, e4, e5, e6, e7, e8, e9, len_eq0, hl0, hd', rs_r6_format, Bool.not_eq_true', Bool.not_eq_false', go_sem, eq_self, Nat.reduceEqDiff, Nat.reduceBEq, Nat.reduceAdd, Nat.reduceLeDiff, reduceIte, reduceCtorEq, tysA, tyA, Ty.enc, Ty.encs]))
      | (refine Run.retP g_r6_format (Heap.le_refl _) ?_; simp -implicitDefEqProofs only [rs_r6_format, lt_f hlt, e1, e2, e3, e4, e5, e6, e7, e8, e9, len_eq0, hl0, hd', go_sem, eq_self, Nat.reduceEqDiff, Nat.reduceBEq, Nat.reduceAdd, Nat.reduceLeDiff, reduceIte, reduceCtorEq, tysA, tyA, Ty.enc, Ty.encs])
      | (refine xo_gs rfl (fun h => ?_) (fun h => ?_) <;> first | (cases h; done) | simp -implicitDefEqProofs only [lt_f hlt, e1, e2, e3, e4, e5, e6, e7, e8, e9, len_eq0, hl0, hd', rs_r6_format, Bool.not_eq_true', Bool.not_eq_false', go_sem, eq_self, Nat.reduceEqDiff, Nat.reduceBEq, Nat.reduceAdd, Nat.reduceLeDiff, reduceIte, reduceCtorEq, tysA, tyA, Ty.enc, Ty.encs])
      | (refine ⟨fun h => ?_, fun h => ?_⟩ <;> first | (cases h; done) | (simp -implicitDefEqProofs only [h]; done) | (try simp -implicitDefEqProofs only [h]))
      | fail))
            rw [hnode]
            have h0 : i = 0 := by simpa using hl0
            have : l = [] := List.length_eq_zero_iff.1 (by omega)
            subst this
            simp [node, txs, hname]
          | false =>
            (repeat' (first
      | refine Run.seq ?_
      | refine Run.skip ?_
      | refine Run.block ?_
      | refine Run.blk ?_
      | refine Run.scope ?_
      | refine Run.scp ?_
      | (refine Run.exit rfl ?_)
      | (refine Run.reg mixed ?_; simp -implicitDefEqProofs only [lt_f hlt, e1, e2, e3, e4, e5, e6, e7, e8, e9, len_eq0, hl0, hd', rs_r6_format, Bool.not_eq_true', Bool.not_eq_false', go_sem, eq_self, Nat.reduceEqDiff, Nat.reduceBEq, Nat.reduceAdd, Nat.reduceLeDiff, reduceIte, reduceCtorEq, tysA, tyA, Ty.enc, Ty.encs])
      | (refine Run.condM ?_; simp -implicitDefEqProofs only [lt_f hlt, e1, e2, e3, e4, e5, e6, e7, e8, e9, len_eq0, hl0, hd', rs_r6_format, Bool.not_eq_true', Bool.not_eq_false', go_sem, eq_self, Nat.reduceEqDiff, Nat.reduceBEq, Nat.reduceAdd, Nat.reduceLeDiff, reduceIte, reduceCtorEq, tysA, tyA, Ty.enc, Ty.encs])
      | (refine XPv.strAdd (by (try simp only [List.length_append, List.length_cons, List.length_nil]); omega) ?_; (try simp -implicitDefEqProofs only [lt_f hlt, e1, e2, e3, e4, e5, e6, e7, e8, e9, len_eq0, hl0, hd', rs_r6_format, Bool.not_eq_true', Bool.not_eq_false', go_sem, eq_self, Nat.reduceEqDiff, Nat.reduceBEq, Nat.reduceAdd, Nat.reduceLeDiff, reduceIte, reduceCtorEq, tysA, tyA, Ty.enc, Ty.encs]))
      | (refine Run.retP g_r6_format (Heap.le_refl _) ?_; simp -implicitDefEqProofs only [rs_r6_format, lt_f hlt, e1, e2, e3, e4, e5, e6, e7, e8, e9, len_eq0, hl0, hd', go_sem, eq_self, Nat.reduceEqDiff, Nat.reduceBEq, Nat.reduceAdd, Nat.reduceLeDiff, reduceIte, reduceCtorEq, tysA, tyA, Ty.enc, Ty.encs])
      | (refine xo_gs rfl (fun h => ?_) (fun h => ?_) <;> first | (cases h; done) | simp -implicitDefEqProofs only [lt_f hlt, e1, e2, e3, e4, e5, e6, e7, e8, e9, len_eq0, hl0, hd', rs_r6_format, Bool.not_eq_true', Bool.not_eq_false', go_sem, eq_self, Nat.reduceEqDiff, Nat.reduceBEq, Nat.reduceAdd, Nat.reduceLeDiff, reduceIte, reduceCtorEq, tysA, tyA, Ty.enc, Ty.encs])
      | (refine ⟨fun h => ?_, fun h => ?_⟩ <;> first | (cases h; done) | (simp -implicitDefEqProofs only [h]; done) | (try simp -implicitDefEqProofs only [h]))
      | fail))
            rw [hnode]
            have h0 : ¬ i = 0 := by simpa using hl0
            have hne : txs data l ≠ [] := fun h => h0 (by rw [hlast5, ← txs_length data l, h]; rfl)
            rw [hfull]
            simp [node, hne, hname]
      by_cases k7 : kd = 7
      · subst k7
        have e1 : ((7 : Int) == 1) = false := by decide
        have e2 : ((7 : Int) == 2) = false := by decide
        have e3 : ((7 : Int) == 3) = false := by decide
        have e4 : ((7 : Int) == 4) = false := by decide
        have e5 : ((7 : Int) == 5) = false := by decide
        have e6 : ((7 : Int) == 6) = false := by decide
        have e7 : ((7 : Int) == 7) = true := by decide
        have e8 : ((7 : Int) == 8) = false := by decide
        have e9 : ((7 : Int) == 9) = false := by decide
        have hfull : s = Lib.join (txs data l) sepB := by rw [hs, hlast, if_neg (by decide), List.take_length]
        (repeat' (first
      | refine Run.seq ?_
      | refine Run.skip ?_
      | refine Run.block ?_
      | refine Run.blk ?_
      | refine Run.scope ?_
      | refine Run.scp ?_
      | (refine Run.exit rfl ?_)
      | (refine Run.reg mixed ?_; simp -implicitDefEqProofs only [lt_f hlt, e1, e2, e3, e4, e5, e6, e7, e8, e9, rs_r6_format, Bool.not_eq_true', Bool.not_eq_false', go_sem, eq_self, Nat.reduceEqDiff, Nat.reduceBEq, Nat.reduceAdd, Nat.reduceLeDiff, reduceIte, reduceCtorEq, tysA, tyA, Ty.enc, Ty.encs])
      | (refine Run.condM ?_; simp -implicitDefEqProofs only [lt_f hlt, e1, e2, e3, e4, e5, e6, e7, e8, e9, rs_r6_format, Bool.not_eq_true', Bool.not_eq_false', go_sem, eq_self, Nat.reduceEqDiff, Nat.reduceBEq, Nat.reduceAdd, Nat.reduceLeDiff, reduceIte, reduceCtorEq, tysA, tyA, Ty.enc, Ty.encs])
      | (refine XPv.strAdd (by (try simp only [List.length_append, List.length_cons, List.length_nil]); omega) ?_; (try simp -implicitDefEqProofs only [lt_f hlt, e1, e2, e3, e4, e5, e6, e7, e8, e9, rs_r6_format, Bool.not_eq_true', Bool.not_eq_false', go_sem, eq_self, Nat.reduceEqDiff, Nat.reduceBEq, Nat.reduceAdd, Nat.reduceLeDiff, reduceIte, reduceCtorEq, tysA, tyA, Ty.enc, Ty.encs]))
      | (refine Run.retP g_r6_format (Heap.le_refl _) ?_; simp -implicitDefEqProofs only [rs_r6_format, lt_f hlt, e1, e2, e3, e4, e5, e6, e7, e8, e9, go_sem, eq_self, Nat.reduceEqDiff, Nat.reduceBEq, Nat.reduceAdd, Nat.reduceLeDiff, reduceIte, reduceCtorEq, tysA, tyA, Ty.enc, Ty.encs])
      | (refine xo_gs rfl (fun h => ?_) (fun h => ?_) <;> first | (cases h; done) | simp -implicitDefEqProofs only [lt_f hlt, e1, e2, e3, e4, e5, e6, e7, e8, e9, rs_r6_format, Bool.not_eq_true', Bool.not_eq_false', go_sem, eq_self, Nat.reduceEqDiff, Nat.reduceBEq, Nat.reduceAdd, Nat.reduceLeDiff, reduceIte, reduceCtorEq, tysA, tyA, Ty.enc, Ty.encs])
      | (refine ⟨fun h => ?_, fun h => ?_⟩ <;> first | (cases h; done) | (simp -implicitDefEqProofs only [h]; done) | (try simp -implicitDefEqProofs only [h]))
      | fail))
        rw [hnode]
        rw [hfull]; simp [node]
      by_cases k8 : kd = 8
      · subst k8
        have e1 : ((8 : Int) == 1) = false := by decide
        have e2 : ((8 : Int) == 2) = false := by decide
        have e3 : ((8 : Int) == 3) = false := by decide
        have e4 : ((8 : Int) == 4) = false := by decide
        have e5 : ((8 : Int) == 5) = false := by decide
        have e6 : ((8 : Int) == 6) = false := by decide
        have e7 : ((8 : Int) == 7) = false := by decide
        have e8 : ((8 : Int) == 8) = true := by decide
        have e9 : ((8 : Int) == 9) = false := by decide
        have hfull : s = Lib.join (txs data l) sepB := by rw [hs, hlast, if_neg (by decide), List.take_length]
        (repeat' (first
      | refine Run.seq ?_
      | refine Run.skip ?_
      | refine Run.block ?_
      | refine Run.blk ?_
      | refine Run.scope ?_
      | refine Run.scp ?_
      | (refine Run.exit rfl ?_)
      | (refine Run.reg mixed ?_; simp -implicitDefEqProofs only [lt_f hlt, e1, e2, e3, e4, e5, e6, e7, e8, e9, rs_r6_format, Bool.not_eq_true', Bool.not_eq_false', go_sem, eq_self, Nat.reduceEqDiff, Nat.reduceBEq, Nat.reduceAdd, Nat.reduceLeDiff, reduceIte, reduceCtorEq, tysA, tyA, Ty.enc, Ty.encs])
      | (refine Run.condM ?_; simp -implicitDefEqProofs only [lt_f hlt, e1, e2, e3, e4, e5, e6, e7, e8, e9, rs_r6_format, Bool.not_eq_true', Bool.not_eq_false', go_sem, eq_self, Nat.reduceEqDiff, Nat.reduceBEq, Nat.reduceAdd, Nat.reduceLeDiff, reduceIte, reduceCtorEq, tysA, tyA, Ty.enc, Ty.encs])
      | (refine XPv.strAdd (by (try simp only [List.length_append, List.length_cons, List.length_nil]); omega) ?_; (try simp -implicitDefEqProofs only [lt_f hlt, e1, e2, e3, e4, e5, e6, e7, e8, e9, rs_r6_format, Bool.not_eq_true', Bool.not_eq_false', go_sem, eq_self, Nat.reduceEqDiff, Nat.reduceBEq, Nat.reduceAdd, Nat.reduceLeDiff, reduceIte, reduceCtorEq, tysA, tyA, Ty.enc, Ty.encs]))
      | (refine Run.retP g_r6_format (Heap.le_refl _) ?_; simp -implicitDefEqProofs only [rs_r6_format, lt_f hlt, e1, e2, e3, e4, e5, e6, e7, e8, e9, go_sem, eq_self, Nat.reduceEqDiff, Nat.reduceBEq, Nat.reduceAdd, Nat.reduceLeDiff, reduceIte, reduceCtorEq, tysA, tyA, Ty.enc, Ty.encs])
      | (refine xo_gs rfl (fun h => ?_) (fun h => ?_) <;> first | (cases h; done) | simp -implicitDefEqProofs only [lt_f hlt, e1, e2, e3, e4, e5, e6, e7, e8, e9, rs_r6_format, Bool.not_eq_true', Bool.not_eq_false', go_sem, eq_self, Nat.reduceEqDiff, Nat.reduceBEq, Nat.reduceAdd, Nat.reduceLeDiff, reduceIte, reduceCtorEq, tysA, tyA, Ty.enc, Ty.encs])
      | (refine ⟨fun h => ?_, fun h => ?_⟩ <;> first | (cases h; done) | (simp -implicitDefEqProofs only [h]; done) | (try simp -implicitDefEqProofs only [h]))
      | fail))
        rw [hnode]
        rw [hfull]; simp [node]
      by_cases k9 : kd = 9
      · subst k9
        have e1 : ((9 : Int) == 1) = false := by decide
        have e2 : ((9 : Int) == 2) = false := by decide
        have e3 : ((9 : Int) == 3) = false := by decide
        have e4 : ((9 : Int) == 4) = false := by decide
        have e5 : ((9 : Int) == 5) = false := by decide
        have e6 : ((9 : Int) == 6) = false := by decide
        have e7 : ((9 : Int) == 7) = false := by decide
        have e8 : ((9 : Int) == 8) = false := by decide
        have e9 : ((9 : Int) == 9) = true := by decide
        have h1l := h9 rfl
        have hi1 : i = l.length - 1 := by rw [hlast, if_pos rfl]
        obtain ⟨t', ht⟩ := ex_at (show i < l.length by omega)
        have hvt := validTs_mem hvl.1 (List.mem_of_getElem? ht)
        have htl := txT_len hd hvt
        have hlastx := getLast_txs (data := data) ht
        have hs1 : Ty.sizes (l.take (i + 1)) = Ty.sizes (l.take i) + t'.size := by rw [take_snoc ht, sizes_snoc]
        have hs2 := sizes_take l (i + 1)
        obtain ⟨kd', nm', al⟩ := t'
        have he := encs_at ht
        have hcall := ih ((Ty.mk kd' nm' al).size) (by omega) (.mk kd' nm' al) σ (Nat.le_refl _) (by omega) hvt
        (repeat' (first
      | refine Run.seq ?_
      | refine Run.skip ?_
      | refine Run.block ?_
      | refine Run.blk ?_
      | refine Run.scope ?_
      | refine Run.scp ?_
      | (refine Run.exit rfl ?_)
      | (refine Run.reg mixed ?_; simp -implicitDefEqProofs only [lt_f hlt, e1, e2, e3, e4, e5, e6, e7, e8, e9, he, rs_r6_format, Bool.not_eq_true', Bool.not_eq_false', go_sem, eq_self, Nat.reduceEqDiff, Nat.reduceBEq, Nat.reduceAdd, Nat.reduceLeDiff, reduceIte, reduceCtorEq, tysA, tyA, Ty.enc, Ty.encs])
      | (refine Run.condM ?_; simp -implicitDefEqProofs only [lt_f hlt, e1, e2, e3, e4, e5, e6, e7, e8, e9, he, rs_r6_format, Bool.not_eq_true', Bool.not_eq_false', go_sem, eq_self, Nat.reduceEqDiff, Nat.reduceBEq, Nat.reduceAdd, Nat.reduceLeDiff, reduceIte, reduceCtorEq, tysA, tyA, Ty.enc, Ty.encs])
      | (refine XPv.strAdd (by (try simp only [List.length_append, List.length_cons, List.length_nil]); omega) ?_; (try simp -implicitDefEqProofs only [lt_f hlt, e1, e2, e3, e4, e5, e6, e7, e8, e9, he, rs_r6_format, Bool.not_eq_true', Bool.not_eq_false', go_sem, eq_self, Nat.reduceEqDiff, Nat.reduceBEq, Nat.reduceAdd, Nat.reduceLeDiff, reduceIte, reduceCtorEq, tysA, tyA, Ty.enc, Ty.encs]))
      | (refine Run.retP g_r6_format (Heap.le_refl _) ?_; simp -implicitDefEqProofs only [rs_r6_format, lt_f hlt, e1, e2, e3, e4, e5, e6, e7, e8, e9, he, go_sem, eq_self, Nat.reduceEqDiff, Nat.reduceBEq, Nat.reduceAdd, Nat.reduceLeDiff, reduceIte, reduceCtorEq, tysA, tyA, Ty.enc, Ty.encs])
      | (refine XCall.det (hcall) ?_; simp -implicitDefEqProofs only [lt_f hlt, e1, e2, e3, e4, e5, e6, e7, e8, e9, he, rs_r6_format, Bool.not_eq_true', Bool.not_eq_false', go_sem, eq_self, Nat.reduceEqDiff, Nat.reduceBEq, Nat.reduceAdd, Nat.reduceLeDiff, reduceIte, reduceCtorEq, tysA, tyA, Ty.enc, Ty.encs])
      | (refine xo_gs rfl (fun h => ?_) (fun h => ?_) <;> first | (cases h; done) | simp -implicitDefEqProofs only [lt_f hlt, e1, e2, e3, e4, e5, e6, e7, e8, e9, he, rs_r6_format, Bool.not_eq_true', Bool.not_eq_false', go_sem, eq_self, Nat.reduceEqDiff, Nat.reduceBEq, Nat.reduceAdd, Nat.reduceLeDiff, reduceIte, reduceCtorEq, tysA, tyA, Ty.enc, Ty.encs])
      | (refine ⟨fun h => ?_, fun h => ?_⟩ <;> first | (cases h; done) | (simp -implicitDefEqProofs only [h]; done) | (try simp -implicitDefEqProofs only [h]))
      | fail))
        rw [hnode]
        have hpre : s = Lib.join ((txs data l).take i) sepB := by rw [hs, txs_take]
        rw [hpre]
        simp only [node, txs_length, ← hi1, hlastx]
        simp
      have e1 := beqF k1
      have e2 := beqF k2
      have e3 := beqF k3
      have e4 := beqF k4
      have e5 := beqF k5
      have e7 := beqF k7
      have e8 := beqF k8
      have e9 := beqF k9
      have hfull : s = Lib.join (txs data l) sepB := by rw [hs, hlast, if_neg k9, List.take_length]
      (repeat' (first
      | refine Run.seq ?_
      | refine Run.skip ?_
      | refine Run.block ?_
      | refine Run.blk ?_
      | refine Run.scope ?_
      | refine Run.scp ?_
      | (refine Run.exit rfl ?_)
      | (refine Run.reg mixed ?_; simp -implicitDefEqProofs only [lt_f hlt, e1, e2, e3, e4, e5, e7, e8, e9, rs_r6_format, Bool.not_eq_true', Bool.not_eq_false', go_sem, eq_self, Nat.reduceEqDiff, Nat.reduceBEq, Nat.reduceAdd, Nat.reduceLeDiff, reduceIte, reduceCtorEq, tysA, tyA, Ty.enc, Ty.encs])
      | (refine Run.condM ?_; simp -implicitDefEqProofs only [lt_f hlt, e1, e2, e3, e4, e5, e7, e8, e9, rs_r6_format, Bool.not_eq_true', Bool.not_eq_false', go_sem, eq_self, Nat.reduceEqDiff, Nat.reduceBEq, Nat.reduceAdd, Nat.reduceLeDiff, reduceIte, reduceCtorEq, tysA, tyA, Ty.enc, Ty.encs])
      | (refine XPv.strAdd (by (try simp only [List.length_append, List.length_cons, List.length_nil]); omega) ?_; (try simp -implicitDefEqProofs only [lt_f hlt, e1, e2, e3, e4, e5, e7, e8, e9, rs_r6_format, Bool.not_eq_true', Bool.not_eq_false', go_sem, eq_self, Nat.reduceEqDiff, Nat.reduceBEq, Nat.reduceAdd, Nat.reduceLeDiff, reduceIte, reduceCtorEq, tysA, tyA, Ty.enc, Ty.encs]))
      | (refine Run.retP g_r6_format (Heap.le_refl _) ?_; simp -implicitDefEqProofs only [rs_r6_format, lt_f hlt, e1, e2, e3, e4, e5, e7, e8, e9, go_sem, eq_self, Nat.reduceEqDiff, Nat.reduceBEq, Nat.reduceAdd, Nat.reduceLeDiff, reduceIte, reduceCtorEq, tysA, tyA, Ty.enc, Ty.encs])
      | (refine xo_gs rfl (fun h => ?_) (fun h => ?_) <;> first | (cases h; done) | simp -implicitDefEqProofs only [lt_f hlt, e1, e2, e3, e4, e5, e7, e8, e9, rs_r6_format, Bool.not_eq_true', Bool.not_eq_false', go_sem, eq_self, Nat.reduceEqDiff, Nat.reduceBEq, Nat.reduceAdd, Nat.reduceLeDiff, reduceIte, reduceCtorEq, tysA, tyA, Ty.enc, Ty.encs])
      | (refine ⟨fun h => ?_, fun h => ?_⟩ <;> first | (cases h; done) | (simp -implicitDefEqProofs only [h]; done) | (try simp -implicitDefEqProofs only [h]))
      | fail))
      rw [hnode, hfull]
      simp [node, k1, k2, k3, k4, k5, k7, k8, k9]
    by_cases k9 : kd = 9
    · have e9 := beqT k9
      have h1l := h9 k9
      have hws : IntKind.i64.wrap ((l.length : Int) - 1) = (last : Int) := by rw [hlast, if_pos k9, wrap_pos (by omega) (by omega)]; omega
      (repeat' (first
      | refine Run.seq ?_
      | refine Run.skip ?_
      | refine Run.block ?_
      | refine Run.blk ?_
      | refine Run.scope ?_
      | refine Run.scp ?_
      | (refine Run.exit rfl ?_)
      | (refine Run.reg mixed ?_; simp -implicitDefEqProofs only [encs_len, e9, hws, rs_r6_format, Bool.not_eq_true', Bool.not_eq_false', go_sem, eq_self, Nat.reduceEqDiff, Nat.reduceBEq, Nat.reduceAdd, Nat.reduceLeDiff, reduceIte, reduceCtorEq, tysA, tyA, Ty.enc, Ty.encs])
      | (refine Run.condM ?_; simp -implicitDefEqProofs only [encs_len, e9, hws, rs_r6_format, Bool.not_eq_true', Bool.not_eq_false', go_sem, eq_self, Nat.reduceEqDiff, Nat.reduceBEq, Nat.reduceAdd, Nat.reduceLeDiff, reduceIte, reduceCtorEq, tysA, tyA, Ty.enc, Ty.encs])
      | (refine xo_gs rfl (fun h => ?_) (fun h => ?_) <;> first | (cases h; done) | simp -implicitDefEqProofs only [encs_len, e9, hws, rs_r6_format, Bool.not_eq_true', Bool.not_eq_false', go_sem, eq_self, Nat.reduceEqDiff, Nat.reduceBEq, Nat.reduceAdd, Nat.reduceLeDiff, reduceIte, reduceCtorEq, tysA, tyA, Ty.enc, Ty.encs])
      | (refine ⟨fun h => ?_, fun h => ?_⟩ <;> first | (cases h; done) | (simp -implicitDefEqProofs only [h]; done) | (try simp -implicitDefEqProofs only [h]))
      | fail))
      refine Run.loopA ?_
      exact hstart
    · have e9 := beqF k9
      have hl' : last = l.length := by rw [hlast, if_neg k9]
      (repeat' (first
      | refine Run.seq ?_
      | refine Run.skip ?_
      | refine Run.block ?_
      | refine Run.blk ?_
      | refine Run.scope ?_
      | refine Run.scp ?_
      | (refine Run.exit rfl ?_)
      | (refine Run.reg mixed ?_; simp -implicitDefEqProofs only [encs_len, e9, rs_r6_format, Bool.not_eq_true', Bool.not_eq_false', go_sem, eq_self, Nat.reduceEqDiff, Nat.reduceBEq, Nat.reduceAdd, Nat.reduceLeDiff, reduceIte, reduceCtorEq, tysA, tyA, Ty.enc, Ty.encs])
      | (refine Run.condM ?_; simp -implicitDefEqProofs only [encs_len, e9, rs_r6_format, Bool.not_eq_true', Bool.not_eq_false', go_sem, eq_self, Nat.reduceEqDiff, Nat.reduceBEq, Nat.reduceAdd, Nat.reduceLeDiff, reduceIte, reduceCtorEq, tysA, tyA, Ty.enc, Ty.encs])
      | (refine xo_gs rfl (fun h => ?_) (fun h => ?_) <;> first | (cases h; done) | simp -implicitDefEqProofs only [encs_len, e9, rs_r6_format, Bool.not_eq_true', Bool.not_eq_false', go_sem, eq_self, Nat.reduceEqDiff, Nat.reduceBEq, Nat.reduceAdd, Nat.reduceLeDiff, reduceIte, reduceCtorEq, tysA, tyA, Ty.enc, Ty.encs])
      | (refine ⟨fun h => ?_, fun h => ?_⟩ <;> first | (cases h; done) | (simp -implicitDefEqProofs only [h]; done) | (try simp -implicitDefEqProofs only [h]))
      | fail))
      refine Run.loopA ?_
      rw [← hl']
      exact hstart

def fmtT (data : List Dat) (t : Ty) : List UInt8 := if (decide (t.size ≤ 200) && validT data 101 t) = true then txT data t else []
theorem typing_Format_ok (data : List Dat) (hd : DsOk data) (t : Ty) (σ : Heap) (hgt : σ.gt powB = some powA) : ACalls Tryd.prog 15 [dsA data, tyA t] σ (fun v σ' => v = .d (.str (fmtT data t)) ∧ σ' = σ) := by
  obtain ⟨kd, nm, l⟩ := t
  refine i_typing_Format (by simp) ?_
  rw [argF_2]
  have hV := typing_Valid_ok data (.mk kd nm l) 101 σ
  unfold fmtT
  cases h : (decide ((Ty.mk kd nm l).size ≤ 200) && validT data 101 (.mk kd nm l)) with
  | false =>
    rw [h] at hV
    (repeat' (first
      | refine Run.seq ?_
      | refine Run.skip ?_
      | refine Run.block ?_
      | refine Run.blk ?_
      | refine Run.scope ?_
      | refine Run.scp ?_
      | (refine Run.exit rfl ?_)
      | (refine Run.reg mixed ?_; simp -implicitDefEqProofs only [rs_typing_Format, Bool.not_eq_true', Bool.not_eq_false', go_sem, eq_self, Nat.reduceEqDiff, Nat.reduceBEq, Nat.reduceAdd, Nat.reduceLeDiff, reduceIte, reduceCtorEq, tysA, tyA, Ty.enc, Ty.encs])
      | (refine Run.condM ?_; simp -implicitDefEqProofs only [rs_typing_Format, Bool.not_eq_true', Bool.not_eq_false', go_sem, eq_self, Nat.reduceEqDiff, Nat.reduceBEq, Nat.reduceAdd, Nat.reduceLeDiff, reduceIte, reduceCtorEq, tysA, tyA, Ty.enc, Ty.encs])
      | (refine Run.retP g_typing_Format (Heap.le_refl _) ?_; simp -implicitDefEqProofs only [rs_typing_Format, go_sem, eq_self, Nat.reduceEqDiff, Nat.reduceBEq, Nat.reduceAdd, Nat.reduceLeDiff, reduceIte, reduceCtorEq, tysA, tyA, Ty.enc, Ty.encs])
      | (refine XCall.det (hV) ?_; simp -implicitDefEqProofs only [rs_typing_Format, Bool.not_eq_true', Bool.not_eq_false', go_sem, eq_self, Nat.reduceEqDiff, Nat.reduceBEq, Nat.reduceAdd, Nat.reduceLeDiff, reduceIte, reduceCtorEq, tysA, tyA, Ty.enc, Ty.encs])
      | (refine xo_gs rfl (fun h => ?_) (fun h => ?_) <;> first | (cases h; done) | simp -implicitDefEqProofs only [rs_typing_Format, Bool.not_eq_true', Bool.not_eq_false', go_sem, eq_self, Nat.reduceEqDiff, Nat.reduceBEq, Nat.reduceAdd, Nat.reduceLeDiff, reduceIte, reduceCtorEq, tysA, tyA, Ty.enc, Ty.encs])
      | (refine ⟨fun h => ?_, fun h => ?_⟩ <;> first | (cases h; done) | (simp -implicitDefEqProofs only [h]; done) | (try simp -implicitDefEqProofs only [h]))
      | fail))
  | true =>
    rw [h] at hV
    simp only [Bool.and_eq_true, decide_eq_true_eq] at h
    have hT := typing_text_ok data hd 1000 (.mk kd nm l) σ (by omega) (by omega) h.2 hgt
    (repeat' (first
      | refine Run.seq ?_
      | refine Run.skip ?_
      | refine Run.block ?_
      | refine Run.blk ?_
      | refine Run.scope ?_
      | refine Run.scp ?_
      | (refine Run.exit rfl ?_)
      | (refine Run.reg mixed ?_; simp -implicitDefEqProofs only [rs_typing_Format, Bool.not_eq_true', Bool.not_eq_false', go_sem, eq_self, Nat.reduceEqDiff, Nat.reduceBEq, Nat.reduceAdd, Nat.reduceLeDiff, reduceIte, reduceCtorEq, tysA, tyA, Ty.enc, Ty.encs])
      | (refine Run.condM ?_; simp -implicitDefEqProofs only [rs_typing_Format, Bool.not_eq_true', Bool.not_eq_false', go_sem, eq_self, Nat.reduceEqDiff, Nat.reduceBEq, Nat.reduceAdd, Nat.reduceLeDiff, reduceIte, reduceCtorEq, tysA, tyA, Ty.enc, Ty.encs])
      | (refine Run.retP g_typing_Format (Heap.le_refl _) ?_; simp -implicitDefEqProofs only [rs_typing_Format, go_sem, eq_self, Nat.reduceEqDiff, Nat.reduceBEq, Nat.reduceAdd, Nat.reduceLeDiff, reduceIte, reduceCtorEq, tysA, tyA, Ty.enc, Ty.encs])
      | (refine XCall.det (hV) ?_; simp -implicitDefEqProofs only [rs_typing_Format, Bool.not_eq_true', Bool.not_eq_false', go_sem, eq_self, Nat.reduceEqDiff, Nat.reduceBEq, Nat.reduceAdd, Nat.reduceLeDiff, reduceIte, reduceCtorEq, tysA, tyA, Ty.enc, Ty.encs])
      | (refine XCall.det (hT) ?_; simp -implicitDefEqProofs only [rs_typing_Format, Bool.not_eq_true', Bool.not_eq_false', go_sem, eq_self, Nat.reduceEqDiff, Nat.reduceBEq, Nat.reduceAdd, Nat.reduceLeDiff, reduceIte, reduceCtorEq, tysA, tyA, Ty.enc, Ty.encs])
      | (refine xo_gs rfl (fun h => ?_) (fun h => ?_) <;> first | (cases h; done) | simp -implicitDefEqProofs only [rs_typing_Format, Bool.not_eq_true', Bool.not_eq_false', go_sem, eq_self, Nat.reduceEqDiff, Nat.reduceBEq, Nat.reduceAdd, Nat.reduceLeDiff, reduceIte, reduceCtorEq, tysA, tyA, Ty.enc, Ty.encs])
      | (refine ⟨fun h => ?_, fun h => ?_⟩ <;> first | (cases h; done) | (simp -implicitDefEqProofs only [h]; done) | (try simp -implicitDefEqProofs only [h]))
      | fail))
theorem r6_Format_ok (data : List Dat) (hd : DsOk data) (t : Ty) (σ : Heap) (hs : t.size ≤ 1000) : ACalls Tryd.prog 16 [dsA data, tyA t] σ (fun v σ' => v = .d (.str (fmtT data t)) ∧ σ' = σ) := by
  obtain ⟨kd, nm, l⟩ := t
  refine i_r6_Format (by simp) ?_
  rw [argF_2]
  have hV := r6_Valid_ok data (.mk kd nm l) 101 σ hs
  unfold fmtT
  cases h : (decide ((Ty.mk kd nm l).size ≤ 200) && validT data 101 (.mk kd nm l)) with
  | false =>
    rw [h] at hV
    (repeat' (first
      | refine Run.seq ?_
      | refine Run.skip ?_
      | refine Run.block ?_
      | refine Run.blk ?_
      | refine Run.scope ?_
      | refine Run.scp ?_
      | (refine Run.exit rfl ?_)
      | (refine Run.reg mixed ?_; simp -implicitDefEqProofs only [rs_r6_Format, Bool.not_eq_true', Bool.not_eq_false', go_sem, eq_self, Nat.reduceEqDiff, Nat.reduceBEq, Nat.reduceAdd, Nat.reduceLeDiff, reduceIte, reduceCtorEq, tysA, tyA, Ty.enc, Ty.encs])
      | (refine Run.condM ?_; simp -implicitDefEqProofs only [rs_r6_Format, Bool.not_eq_true', Bool.not_eq_false', go_sem, eq_self, Nat.reduceEqDiff, Nat.reduceBEq, Nat.reduceAdd, Nat.reduceLeDiff, reduceIte, reduceCtorEq, tysA, tyA, Ty.enc, Ty.encs])
      | (refine Run.retP g_r6_Format (Heap.le_refl _) ?_; simp -implicitDefEqProofs only [rs_r6_Format, go_sem, eq_self, Nat.reduceEqDiff, Nat.reduceBEq, Nat.reduceAdd, Nat.reduceLeDiff, reduceIte, reduceCtorEq, tysA, tyA, Ty.enc, Ty.encs])
      | (refine XCall.det (hV) ?_; simp -implicitDefEqProofs only [rs_r6_Format, Bool.not_eq_true', Bool.not_eq_false', go_sem, eq_self, Nat.reduceEqDiff, Nat.reduceBEq, Nat.reduceAdd, Nat.reduceLeDiff, reduceIte, reduceCtorEq, tysA, tyA, Ty.enc, Ty.encs])
      | (refine xo_gs rfl (fun h => ?_) (fun h => ?_) <;> first | (cases h; done) | simp -implicitDefEqProofs only [rs_r6_Format, Bool.not_eq_true', Bool.not_eq_false', go_sem, eq_self, Nat.reduceEqDiff, Nat.reduceBEq, Nat.reduceAdd, Nat.reduceLeDiff, reduceIte, reduceCtorEq, tysA, tyA, Ty.enc, Ty.encs])
      | (refine ⟨fun h => ?_, fun h => ?_⟩ <;> first | (cases h; done) | (simp -implicitDefEqProofs only [h]; done) | (try simp -implicitDefEqProofs only [h]))
      | fail))
  | true =>
    rw [h] at hV
    simp only [Bool.and_eq_true, decide_eq_true_eq] at h
    have hT := r6_format_ok data hd 1000 (.mk kd nm l) σ (by omega) (by omega) h.2
    (repeat' (first
      | refine Run.seq ?_
      | refine Run.skip ?_
      | refine Run.block ?_
      | refine Run.blk ?_
      | refine Run.scope ?_
      | refine Run.scp ?_
      | (refine Run.exit rfl ?_)
      | (refine Run.reg mixed ?_; simp -implicitDefEqProofs only [rs_r6_Format, Bool.not_eq_true', Bool.not_eq_false', go_sem, eq_self, Nat.reduceEqDiff, Nat.reduceBEq, Nat.reduceAdd, Nat.reduceLeDiff, reduceIte, reduceCtorEq, tysA, tyA, Ty.enc, Ty.encs])
      | (refine Run.condM ?_; simp -implicitDefEqProofs only [rs_r6_Format, Bool.not_eq_true', Bool.not_eq_false', go_sem, eq_self, Nat.reduceEqDiff, Nat.reduceBEq, Nat.reduceAdd, Nat.reduceLeDiff, reduceIte, reduceCtorEq, tysA, tyA, Ty.enc, Ty.encs])
      | (refine Run.retP g_r6_Format (Heap.le_refl _) ?_; simp -implicitDefEqProofs only [rs_r6_Format, go_sem, eq_self, Nat.reduceEqDiff, Nat.reduceBEq, Nat.reduceAdd, Nat.reduceLeDiff, reduceIte, reduceCtorEq, tysA, tyA, Ty.enc, Ty.encs])
      | (refine XCall.det (hV) ?_; simp -implicitDefEqProofs only [rs_r6_Format, Bool.not_eq_true', Bool.not_eq_false', go_sem, eq_self, Nat.reduceEqDiff, Nat.reduceBEq, Nat.reduceAdd, Nat.reduceLeDiff, reduceIte, reduceCtorEq, tysA, tyA, Ty.enc, Ty.encs])
      | (refine XCall.det (hT) ?_; simp -implicitDefEqProofs only [rs_r6_Format, Bool.not_eq_true', Bool.not_eq_false', go_sem, eq_self, Nat.reduceEqDiff, Nat.reduceBEq, Nat.reduceAdd, Nat.reduceLeDiff, reduceIte, reduceCtorEq, tysA, tyA, Ty.enc, Ty.encs])
      | (refine xo_gs rfl (fun h => ?_) (fun h => ?_) <;> first | (cases h; done) | simp -implicitDefEqProofs only [rs_r6_Format, Bool.not_eq_true', Bool.not_eq_false', go_sem, eq_self, Nat.reduceEqDiff, Nat.reduceBEq, Nat.reduceAdd, Nat.reduceLeDiff, reduceIte, reduceCtorEq, tysA, tyA, Ty.enc, Ty.encs])
      | (refine ⟨fun h => ?_, fun h => ?_⟩ <;> first | (cases h; done) | (simp -implicitDefEqProofs only [h]; done) | (try simp -implicitDefEqProofs only [h]))
      | fail))

theorem TypingTexts_ok (data : List Dat) (t : Ty) (vars : Int) (σ : Heap) (hgt : σ.gt powB = some powA) : ACalls Tryd.prog 3 [dsA data, tyA t, .d (.int .i64 vars)] σ (fun v σ' => v = .d (.bool true) ∧ σ' = σ) := by
  obtain ⟨kd, nm, l⟩ := t
  refine i_law06_TypingTexts (by simp) ?_
  rw [argF_3, dsA]
  (repeat' (first
      | refine Run.seq ?_
      | refine Run.skip ?_
      | refine Run.block ?_
      | refine Run.blk ?_
      | refine Run.scope ?_
      | refine Run.scp ?_
      | (refine Run.exit rfl ?_)
      | (refine Run.reg mixed ?_; simp -implicitDefEqProofs only [rs_law06_TypingTexts, Bool.not_eq_true', Bool.not_eq_false', go_sem, eq_self, Nat.reduceEqDiff, Nat.reduceBEq, Nat.reduceAdd, Nat.reduceLeDiff, reduceIte, reduceCtorEq, tysA, tyA, Ty.enc, Ty.encs])
      | (refine Run.condM ?_; simp -implicitDefEqProofs only [rs_law06_TypingTexts, Bool.not_eq_true', Bool.not_eq_false', go_sem, eq_self, Nat.reduceEqDiff, Nat.reduceBEq, Nat.reduceAdd, Nat.reduceLeDiff, reduceIte, reduceCtorEq, tysA, tyA, Ty.enc, Ty.encs])
      | (refine xo_gs rfl (fun h => ?_) (fun h => ?_) <;> first | (cases h; done) | simp -implicitDefEqProofs only [rs_law06_TypingTexts, Bool.not_eq_true', Bool.not_eq_false', go_sem, eq_self, Nat.reduceEqDiff, Nat.reduceBEq, Nat.reduceAdd, Nat.reduceLeDiff, reduceIte, reduceCtorEq, tysA, tyA, Ty.enc, Ty.encs])
      | (refine ⟨fun h => ?_, fun h => ?_⟩ <;> first | (cases h; done) | (simp -implicitDefEqProofs only [h]; done) | (try simp -implicitDefEqProofs only [h]))
      | fail))
  refine XCall.mk rfl (keep_Data_ok data σ) ?_
  rintro _ σ' ⟨⟨b, rfl, hb⟩, hσ⟩
  rw [hσ]
  clear hσ
  cases b with
  | false =>
    simp -implicitDefEqProofs only [go_sem, eq_self, Nat.reduceEqDiff, Nat.reduceBEq, Nat.reduceAdd, Nat.reduceLeDiff, reduceIte, reduceCtorEq, tysA, tyA, Ty.enc, Ty.encs]
    (repeat' (first
      | refine Run.seq ?_
      | refine Run.skip ?_
      | refine Run.block ?_
      | refine Run.blk ?_
      | refine Run.scope ?_
      | refine Run.scp ?_
      | (refine Run.exit rfl ?_)
      | (refine Run.reg mixed ?_; simp -implicitDefEqProofs only [rs_law06_TypingTexts, Bool.not_eq_true', Bool.not_eq_false', go_sem, eq_self, Nat.reduceEqDiff, Nat.reduceBEq, Nat.reduceAdd, Nat.reduceLeDiff, reduceIte, reduceCtorEq, tysA, tyA, Ty.enc, Ty.encs])
      | (refine Run.condM ?_; simp -implicitDefEqProofs only [rs_law06_TypingTexts, Bool.not_eq_true', Bool.not_eq_false', go_sem, eq_self, Nat.reduceEqDiff, Nat.reduceBEq, Nat.reduceAdd, Nat.reduceLeDiff, reduceIte, reduceCtorEq, tysA, tyA, Ty.enc, Ty.encs])
      | (refine Run.retP g_law06_TypingTexts (Heap.le_refl _) ?_; simp -implicitDefEqProofs only [rs_law06_TypingTexts, go_sem, eq_self, Nat.reduceEqDiff, Nat.reduceBEq, Nat.reduceAdd, Nat.reduceLeDiff, reduceIte, reduceCtorEq, tysA, tyA, Ty.enc, Ty.encs])
      | (refine xo_gs rfl (fun h => ?_) (fun h => ?_) <;> first | (cases h; done) | simp -implicitDefEqProofs only [rs_law06_TypingTexts, Bool.not_eq_true', Bool.not_eq_false', go_sem, eq_self, Nat.reduceEqDiff, Nat.reduceBEq, Nat.reduceAdd, Nat.reduceLeDiff, reduceIte, reduceCtorEq, tysA, tyA, Ty.enc, Ty.encs])
      | (refine ⟨fun h => ?_, fun h => ?_⟩ <;> first | (cases h; done) | (simp -implicitDefEqProofs only [h]; done) | (try simp -implicitDefEqProofs only [h]))
      | fail))
  | true =>
    have hd := hb rfl
    have hT := keep_Type_ok (.mk kd nm l) σ
    by_cases h250 : (Ty.mk kd nm l).size ≤ 250
    case neg =>
      rw [decide_eq_false h250] at hT
      simp -implicitDefEqProofs only [go_sem, eq_self, Nat.reduceEqDiff, Nat.reduceBEq, Nat.reduceAdd, Nat.reduceLeDiff, reduceIte, reduceCtorEq, tysA, tyA, Ty.enc, Ty.encs]
      (repeat' (first
      | refine Run.seq ?_
      | refine Run.skip ?_
      | refine Run.block ?_
      | refine Run.blk ?_
      | refine Run.scope ?_
      | refine Run.scp ?_
      | (refine Run.exit rfl ?_)
      | (refine Run.reg mixed ?_; simp -implicitDefEqProofs only [rs_law06_TypingTexts, Bool.not_eq_true', Bool.not_eq_false', go_sem, eq_self, Nat.reduceEqDiff, Nat.reduceBEq, Nat.reduceAdd, Nat.reduceLeDiff, reduceIte, reduceCtorEq, tysA, tyA, Ty.enc, Ty.encs])
      | (refine Run.condM ?_; simp -implicitDefEqProofs only [rs_law06_TypingTexts, Bool.not_eq_true', Bool.not_eq_false', go_sem, eq_self, Nat.reduceEqDiff, Nat.reduceBEq, Nat.reduceAdd, Nat.reduceLeDiff, reduceIte, reduceCtorEq, tysA, tyA, Ty.enc, Ty.encs])
      | (refine Run.retP g_law06_TypingTexts (Heap.le_refl _) ?_; simp -implicitDefEqProofs only [rs_law06_TypingTexts, go_sem, eq_self, Nat.reduceEqDiff, Nat.reduceBEq, Nat.reduceAdd, Nat.reduceLeDiff, reduceIte, reduceCtorEq, tysA, tyA, Ty.enc, Ty.encs])
      | (refine XCall.det (hT) ?_; simp -implicitDefEqProofs only [rs_law06_TypingTexts, Bool.not_eq_true', Bool.not_eq_false', go_sem, eq_self, Nat.reduceEqDiff, Nat.reduceBEq, Nat.reduceAdd, Nat.reduceLeDiff, reduceIte, reduceCtorEq, tysA, tyA, Ty.enc, Ty.encs])
      | (refine xo_gs rfl (fun h => ?_) (fun h => ?_) <;> first | (cases h; done) | simp -implicitDefEqProofs only [rs_law06_TypingTexts, Bool.not_eq_true', Bool.not_eq_false', go_sem, eq_self, Nat.reduceEqDiff, Nat.reduceBEq, Nat.reduceAdd, Nat.reduceLeDiff, reduceIte, reduceCtorEq, tysA, tyA, Ty.enc, Ty.encs])
      | (refine ⟨fun h => ?_, fun h => ?_⟩ <;> first | (cases h; done) | (simp -implicitDefEqProofs only [h]; done) | (try simp -implicitDefEqProofs only [h]))
      | fail))
    rw [decide_eq_true h250] at hT
    have h1 := typing_Valid_ok data (.mk kd nm l) vars σ
    have h2 := r6_Valid_ok data (.mk kd nm l) vars σ (by omega)
    have h3 := typing_Format_ok data hd (.mk kd nm l) σ hgt
    have h4 := r6_Format_ok data hd (.mk kd nm l) σ (by omega)
    have h5 := typing_Format_ok [] ⟨by simp, by simp⟩ (.mk 1 0 []) σ hgt
    have hint : fmtT [] (.mk 1 0 []) = [105, 110, 116] := by
      have hv : (decide ((Ty.mk 1 0 []).size ≤ 200) && validT [] 101 (.mk 1 0 [])) = true := by simp [Ty.size, Ty.sizes, validT, validTs, shapeOk]
      rw [fmtT, if_pos hv]; simp [txT, node]
    rw [hint] at h5
    have h5' : ACalls Tryd.prog 15 [.nils, .agg [.d (.int .i64 1), .d (.int .i64 0), .nils]] σ (fun v σ' => v = .d (.str [105, 110, 116]) ∧ σ' = σ) := ACalls.plain h5
    simp -implicitDefEqProofs only [go_sem, eq_self, Nat.reduceEqDiff, Nat.reduceBEq, Nat.reduceAdd, Nat.reduceLeDiff, reduceIte, reduceCtorEq, tysA, tyA, Ty.enc, Ty.encs]
    (repeat' (first
      | refine Run.seq ?_
      | refine Run.skip ?_
      | refine Run.block ?_
      | refine Run.blk ?_
      | refine Run.scope ?_
      | refine Run.scp ?_
      | (refine Run.exit rfl ?_)
      | (refine Run.reg mixed ?_; simp -implicitDefEqProofs only [BEq.rfl, strA_eql, rs_law06_TypingTexts, Bool.not_eq_true', Bool.not_eq_false', go_sem, eq_self, Nat.reduceEqDiff, Nat.reduceBEq, Nat.reduceAdd, Nat.reduceLeDiff, reduceIte, reduceCtorEq, tysA, tyA, Ty.enc, Ty.encs])
      | (refine Run.condM ?_; simp -implicitDefEqProofs only [BEq.rfl, strA_eql, rs_law06_TypingTexts, Bool.not_eq_true', Bool.not_eq_false', go_sem, eq_self, Nat.reduceEqDiff, Nat.reduceBEq, Nat.reduceAdd, Nat.reduceLeDiff, reduceIte, reduceCtorEq, tysA, tyA, Ty.enc, Ty.encs])
      | (refine Run.retP g_law06_TypingTexts (Heap.le_refl _) ?_; simp -implicitDefEqProofs only [rs_law06_TypingTexts, BEq.rfl, strA_eql, go_sem, eq_self, Nat.reduceEqDiff, Nat.reduceBEq, Nat.reduceAdd, Nat.reduceLeDiff, reduceIte, reduceCtorEq, tysA, tyA, Ty.enc, Ty.encs])
      | (refine XCall.det (hT) ?_; simp -implicitDefEqProofs only [BEq.rfl, strA_eql, rs_law06_TypingTexts, Bool.not_eq_true', Bool.not_eq_false', go_sem, eq_self, Nat.reduceEqDiff, Nat.reduceBEq, Nat.reduceAdd, Nat.reduceLeDiff, reduceIte, reduceCtorEq, tysA, tyA, Ty.enc, Ty.encs])
      | (refine XCall.det (h1) ?_; simp -implicitDefEqProofs only [BEq.rfl, strA_eql, rs_law06_TypingTexts, Bool.not_eq_true', Bool.not_eq_false', go_sem, eq_self, Nat.reduceEqDiff, Nat.reduceBEq, Nat.reduceAdd, Nat.reduceLeDiff, reduceIte, reduceCtorEq, tysA, tyA, Ty.enc, Ty.encs])
      | (refine XCall.det (h2) ?_; simp -implicitDefEqProofs only [BEq.rfl, strA_eql, rs_law06_TypingTexts, Bool.not_eq_true', Bool.not_eq_false', go_sem, eq_self, Nat.reduceEqDiff, Nat.reduceBEq, Nat.reduceAdd, Nat.reduceLeDiff, reduceIte, reduceCtorEq, tysA, tyA, Ty.enc, Ty.encs])
      | (refine XCall.det (h3) ?_; simp -implicitDefEqProofs only [BEq.rfl, strA_eql, rs_law06_TypingTexts, Bool.not_eq_true', Bool.not_eq_false', go_sem, eq_self, Nat.reduceEqDiff, Nat.reduceBEq, Nat.reduceAdd, Nat.reduceLeDiff, reduceIte, reduceCtorEq, tysA, tyA, Ty.enc, Ty.encs])
      | (refine XCall.det (h4) ?_; simp -implicitDefEqProofs only [BEq.rfl, strA_eql, rs_law06_TypingTexts, Bool.not_eq_true', Bool.not_eq_false', go_sem, eq_self, Nat.reduceEqDiff, Nat.reduceBEq, Nat.reduceAdd, Nat.reduceLeDiff, reduceIte, reduceCtorEq, tysA, tyA, Ty.enc, Ty.encs])
      | (refine XCall.det (h5') ?_; simp -implicitDefEqProofs only [BEq.rfl, strA_eql, rs_law06_TypingTexts, Bool.not_eq_true', Bool.not_eq_false', go_sem, eq_self, Nat.reduceEqDiff, Nat.reduceBEq, Nat.reduceAdd, Nat.reduceLeDiff, reduceIte, reduceCtorEq, tysA, tyA, Ty.enc, Ty.encs])
      | (refine xo_gs rfl (fun h => ?_) (fun h => ?_) <;> first | (cases h; done) | simp -implicitDefEqProofs only [BEq.rfl, strA_eql, rs_law06_TypingTexts, Bool.not_eq_true', Bool.not_eq_false', go_sem, eq_self, Nat.reduceEqDiff, Nat.reduceBEq, Nat.reduceAdd, Nat.reduceLeDiff, reduceIte, reduceCtorEq, tysA, tyA, Ty.enc, Ty.encs])
      | (refine ⟨fun h => ?_, fun h => ?_⟩ <;> first | (cases h; done) | (simp -implicitDefEqProofs only [h]; done) | (try simp -implicitDefEqProofs only [h]))
      | fail))
end Go.Ab
