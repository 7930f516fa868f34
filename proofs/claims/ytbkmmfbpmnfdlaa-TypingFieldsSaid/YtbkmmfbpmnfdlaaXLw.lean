/- The law TypingFields: it returns true. Conditions: none. -/
import Derived.Test.YtbkmmfbpmnfdlaaXFf
set_option linter.unusedSimpArgs false
set_option linter.unusedVariables false
namespace Go.Ab
open Go.Proofs

def oneDat : List Dat := [⟨[68], 0, [⟨[67], []⟩]⟩]

theorem oneDat_ok : datsOk oneDat = true := by decide
theorem oneDat_enc : oneDat.map Dat.enc = [[.str [68], .int .i64 0, .sl [[.str [67], .sl []]]]] := rfl
theorem oneDat_fields : fieldsOf oneDat (.mk 5 0 []) 0 = some [] := rfl

theorem fieldsOf_small {data : List Dat} {t : Ty} {c : Int} (hd : datsOk data = true) (ht : t.size ≤ 250) : Ty.sizes ((fieldsOf data t c).getD []) ≤ 5000 := by
  unfold fieldsOf
  split
  · cases h1 : data[t.num.toNat]? with
    | none => simp [Ty.sizes]
    | some d =>
      simp only [Option.bind_some]
      split
      · cases h2 : d.cons[c.toNat]? with
        | none => simp [Ty.sizes]
        | some k =>
          simp only [Option.bind_some]
          split
          · have hdok : d.ok = true := by
              simp only [datsOk, Bool.and_eq_true, List.all_eq_true] at hd
              exact hd.2 d (List.mem_of_getElem? h1)
            have hcok : k.ok = true := by
              simp only [Dat.ok, Bool.and_eq_true, List.all_eq_true] at hdok
              exact hdok.2 k (List.mem_of_getElem? h2)
            simp only [Con.ok, Bool.and_eq_true, decide_eq_true_eq] at hcok
            obtain ⟨kd, nm, l⟩ := t
            have hsl : Ty.sizes l ≤ 250 := by simp only [Ty.size] at ht; omega
            have := substs_size l 250 (by omega) (fun t h => by have := mem_size h; omega) k.args
            simp only [Option.getD_some, Ty.args]
            omega
          · simp [Ty.sizes]
      · simp [Ty.sizes]
  · simp [Ty.sizes]

theorem TypingFields_ok (data : List Dat) (t : Ty) (c : Int) (σ : Heap) :
    ACalls Try.prog 3 [dsA data, tyA t, .d (.int .i64 c)] σ (fun v σ' => v = .d (.bool true) ∧ σ' = σ) := by
  obtain ⟨kd, nm, l⟩ := t
  refine i_law06_TypingFields (by simp) ?_
  rw [argF_3]
  (repeat (first
      | refine Run.seq ?_
      | refine Run.skip ?_
      | refine Run.block ?_
      | refine Run.blk ?_
      | (refine Run.exit rfl ?_)))
  (refine Run.reg mixed ?_; simp -implicitDefEqProofs only [go_sem, eq_self, Nat.reduceEqDiff, Nat.reduceBEq, Nat.reduceAdd, Nat.reduceLeDiff, reduceIte, reduceCtorEq, tysA, tyA, Ty.enc, Ty.encs])
  (repeat (first
      | refine Run.seq ?_
      | refine Run.skip ?_
      | refine Run.block ?_
      | refine Run.blk ?_
      | (refine Run.exit rfl ?_)))
  refine Run.regCut mixed (put 0 (dsA data) (put 2 (.d (.int .i64 c)) (put 4 (.lp 4 0) (put 21 (.d (.bool (!(datsOk data) || !(decide ((Ty.mk kd nm l).size ≤ 250))))) U))))
    (putL 4 [.d (.int .i64 kd), .d (.int .i64 nm), tysA l] E) σ ?_ ?_
  · simp -implicitDefEqProofs only [dsA, go_sem, eq_self, Nat.reduceEqDiff, Nat.reduceBEq, Nat.reduceAdd, Nat.reduceLeDiff, reduceIte, reduceCtorEq, tysA, tyA, Ty.enc, Ty.encs]
    refine XCall.mk rfl (keep_Data_ok data _) ?_
    rintro v σ' ⟨rfl, rfl⟩
    cases h1 : datsOk data
    · simp -implicitDefEqProofs only [h1, go_sem, eq_self, Nat.reduceEqDiff, Nat.reduceBEq, Nat.reduceAdd, Nat.reduceLeDiff, reduceIte, reduceCtorEq, tysA, tyA, Ty.enc, Ty.encs]
    · simp -implicitDefEqProofs only [h1, go_sem, eq_self, Nat.reduceEqDiff, Nat.reduceBEq, Nat.reduceAdd, Nat.reduceLeDiff, reduceIte, reduceCtorEq, tysA, tyA, Ty.enc, Ty.encs]
      refine XCall.mk rfl (keep_Type_ok (.mk kd nm l) _) ?_
      rintro v σ' ⟨rfl, rfl⟩
      simp -implicitDefEqProofs only [h1, go_sem, eq_self, Nat.reduceEqDiff, Nat.reduceBEq, Nat.reduceAdd, Nat.reduceLeDiff, reduceIte, reduceCtorEq, tysA, tyA, Ty.enc, Ty.encs]
  · (repeat (first
      | refine Run.seq ?_
      | refine Run.skip ?_
      | refine Run.block ?_
      | refine Run.blk ?_
      | (refine Run.exit rfl ?_)
      | (refine Run.reg mixed ?_; simp -implicitDefEqProofs only [go_sem, eq_self, Nat.reduceEqDiff, Nat.reduceBEq, Nat.reduceAdd, Nat.reduceLeDiff, reduceIte, reduceCtorEq, tysA, tyA, Ty.enc, Ty.encs])
      | (refine Run.condM ?_; simp -implicitDefEqProofs only [go_sem, eq_self, Nat.reduceEqDiff, Nat.reduceBEq, Nat.reduceAdd, Nat.reduceLeDiff, reduceIte, reduceCtorEq, tysA, tyA, Ty.enc, Ty.encs])))
    refine ⟨fun h => ?_, fun h => ?_⟩
    · (repeat (first
      | refine Run.seq ?_
      | refine Run.skip ?_
      | refine Run.block ?_
      | refine Run.blk ?_
      | (refine Run.exit rfl ?_)
      | (refine Run.reg mixed ?_; simp -implicitDefEqProofs only [go_sem, eq_self, Nat.reduceEqDiff, Nat.reduceBEq, Nat.reduceAdd, Nat.reduceLeDiff, reduceIte, reduceCtorEq, tysA, tyA, Ty.enc, Ty.encs])
      | (refine Run.condM ?_; simp -implicitDefEqProofs only [go_sem, eq_self, Nat.reduceEqDiff, Nat.reduceBEq, Nat.reduceAdd, Nat.reduceLeDiff, reduceIte, reduceCtorEq, tysA, tyA, Ty.enc, Ty.encs])))
      refine Run.retP g_law06_TypingFields (Heap.le_refl _) ?_
      simp -implicitDefEqProofs only [rs_law06_TypingFields, go_sem, eq_self, Nat.reduceEqDiff, Nat.reduceBEq, Nat.reduceAdd, Nat.reduceLeDiff, reduceIte, reduceCtorEq, tysA, tyA, Ty.enc, Ty.encs]
    · simp only [Bool.or_eq_false_iff, Bool.not_eq_false', decide_eq_true_eq] at h
      obtain ⟨hd, hs⟩ := h
      (repeat (first
      | refine Run.seq ?_
      | refine Run.skip ?_
      | refine Run.block ?_
      | refine Run.blk ?_
      | (refine Run.exit rfl ?_)
      | (refine Run.reg mixed ?_; simp -implicitDefEqProofs only [go_sem, eq_self, Nat.reduceEqDiff, Nat.reduceBEq, Nat.reduceAdd, Nat.reduceLeDiff, reduceIte, reduceCtorEq, tysA, tyA, Ty.enc, Ty.encs])
      | (refine Run.condM ?_; simp -implicitDefEqProofs only [go_sem, eq_self, Nat.reduceEqDiff, Nat.reduceBEq, Nat.reduceAdd, Nat.reduceLeDiff, reduceIte, reduceCtorEq, tysA, tyA, Ty.enc, Ty.encs])))
      refine XCall.mk rfl (typing_Fields_ok data (.mk kd nm l) c hd hs _) ?_
      rintro v σ' ⟨rfl, rfl⟩
      simp -implicitDefEqProofs only [fieldsA, go_sem, eq_self, Nat.reduceEqDiff, Nat.reduceBEq, Nat.reduceAdd, Nat.reduceLeDiff, reduceIte, reduceCtorEq, tysA, tyA, Ty.enc, Ty.encs]
      (repeat (first
      | refine Run.seq ?_
      | refine Run.skip ?_
      | refine Run.block ?_
      | refine Run.blk ?_
      | (refine Run.exit rfl ?_)
      | (refine Run.reg mixed ?_; simp -implicitDefEqProofs only [go_sem, eq_self, Nat.reduceEqDiff, Nat.reduceBEq, Nat.reduceAdd, Nat.reduceLeDiff, reduceIte, reduceCtorEq, tysA, tyA, Ty.enc, Ty.encs])
      | (refine Run.condM ?_; simp -implicitDefEqProofs only [go_sem, eq_self, Nat.reduceEqDiff, Nat.reduceBEq, Nat.reduceAdd, Nat.reduceLeDiff, reduceIte, reduceCtorEq, tysA, tyA, Ty.enc, Ty.encs])))
      refine XCall.mk rfl (r6_Fields_ok data (.mk kd nm l) c hd hs _) ?_
      rintro v σ' ⟨rfl, rfl⟩
      simp -implicitDefEqProofs only [fieldsA, go_sem, eq_self, Nat.reduceEqDiff, Nat.reduceBEq, Nat.reduceAdd, Nat.reduceLeDiff, reduceIte, reduceCtorEq, tysA, tyA, Ty.enc, Ty.encs]
      (repeat (first
      | refine Run.seq ?_
      | refine Run.skip ?_
      | refine Run.block ?_
      | refine Run.blk ?_
      | (refine Run.exit rfl ?_)
      | (refine Run.reg mixed ?_; simp -implicitDefEqProofs only [go_sem, eq_self, Nat.reduceEqDiff, Nat.reduceBEq, Nat.reduceAdd, Nat.reduceLeDiff, reduceIte, reduceCtorEq, tysA, tyA, Ty.enc, Ty.encs])
      | (refine Run.condM ?_; simp -implicitDefEqProofs only [go_sem, eq_self, Nat.reduceEqDiff, Nat.reduceBEq, Nat.reduceAdd, Nat.reduceLeDiff, reduceIte, reduceCtorEq, tysA, tyA, Ty.enc, Ty.encs])))
      refine XCall.mk rfl (ACalls.plain (typing_Fields_ok oneDat (.mk 5 0 []) 0 oneDat_ok (by decide) _)) ?_
      rintro v σ' ⟨rfl, rfl⟩
      simp -implicitDefEqProofs only [fieldsA, oneDat_fields, go_sem, eq_self, Nat.reduceEqDiff, Nat.reduceBEq, Nat.reduceAdd, Nat.reduceLeDiff, reduceIte, reduceCtorEq, tysA, tyA, Ty.enc, Ty.encs]
      (repeat (first
      | refine Run.seq ?_
      | refine Run.skip ?_
      | refine Run.block ?_
      | refine Run.blk ?_
      | (refine Run.exit rfl ?_)
      | (refine Run.reg mixed ?_; simp -implicitDefEqProofs only [go_sem, eq_self, Nat.reduceEqDiff, Nat.reduceBEq, Nat.reduceAdd, Nat.reduceLeDiff, reduceIte, reduceCtorEq, tysA, tyA, Ty.enc, Ty.encs])
      | (refine Run.condM ?_; simp -implicitDefEqProofs only [go_sem, eq_self, Nat.reduceEqDiff, Nat.reduceBEq, Nat.reduceAdd, Nat.reduceLeDiff, reduceIte, reduceCtorEq, tysA, tyA, Ty.enc, Ty.encs])))
      refine XCall.mk rfl ((same_both 5000 (by omega)).2 _ _ _ (fieldsOf_small hd hs)) ?_
      rintro v σ' ⟨rfl, rfl⟩
      simp -implicitDefEqProofs only [sames_refl, go_sem, eq_self, Nat.reduceEqDiff, Nat.reduceBEq, Nat.reduceAdd, Nat.reduceLeDiff, reduceIte, reduceCtorEq, tysA, tyA, Ty.enc, Ty.encs]
      (repeat (first
      | refine Run.seq ?_
      | refine Run.skip ?_
      | refine Run.block ?_
      | refine Run.blk ?_
      | (refine Run.exit rfl ?_)
      | (refine Run.reg mixed ?_; simp -implicitDefEqProofs only [go_sem, eq_self, Nat.reduceEqDiff, Nat.reduceBEq, Nat.reduceAdd, Nat.reduceLeDiff, reduceIte, reduceCtorEq, tysA, tyA, Ty.enc, Ty.encs])
      | (refine Run.condM ?_; simp -implicitDefEqProofs only [go_sem, eq_self, Nat.reduceEqDiff, Nat.reduceBEq, Nat.reduceAdd, Nat.reduceLeDiff, reduceIte, reduceCtorEq, tysA, tyA, Ty.enc, Ty.encs])))
      refine Run.retP g_law06_TypingFields (Heap.le_refl _) ?_
      simp -implicitDefEqProofs only [rs_law06_TypingFields, go_sem, eq_self, Nat.reduceEqDiff, Nat.reduceBEq, Nat.reduceAdd, Nat.reduceLeDiff, reduceIte, reduceCtorEq, tysA, tyA, Ty.enc, Ty.encs]
      rfl
end Go.Ab
