/- The compact codes of the functions of this seat, computed out of the translation. Conditions: none. -/
import Derived.Test.YtbkmmfbpmnfdlaaXAb13
import Derived.Test.YtbkmmfbpmnfdlaaProg
import Derived.KernelRfl
set_option linter.unusedSimpArgs false
set_option linter.unusedVariables false
namespace Go.Ab
open Go.Proofs

theorem mixed : Try.prog.follows .mixedOrders = true := by kernel_rfl

/-! ### amortcost/amortcostlaw06.TypingFields -/
def c_law06_TypingFields : C := (.seq (.reg [⟨some 4, .box (.t 1) false, none⟩,
       ⟨some 6, .mv (.c (.d (.bool false))), none⟩] [0, 2, 4])
   (.seq (.seq (.reg [⟨some 14, .mv (.t 0), none⟩,
         ⟨some 15, .call 5 [(.t 14)], none⟩,
         ⟨some 16, .un .not (.t 15), none⟩,
         ⟨some 17, .mv (.t 16), none⟩,
         ⟨some 18, .ld (.t 4) (some 3), some (17, false)⟩,
         ⟨some 19, .call 6 [(.t 18)], some (17, false)⟩,
         ⟨some 20, .un .not (.t 19), some (17, false)⟩,
         ⟨some 21, .pick (.t 17) (.c (.d (.bool true))) (.t 20), none⟩] [0, 2, 4, 21])
     (.cond (.t 21) (.seq (.reg [⟨some 6, .mv (.c (.d (.bool true))), none⟩] [6])
       .ret)
      .skip))
    (.seq (.reg [⟨some 23, .mv (.t 0), none⟩,
         ⟨some 24, .ld (.t 4) (some 3), none⟩,
         ⟨some 25, .mv (.t 2), none⟩,
         ⟨some 26, .call 7 [(.t 23), (.t 24), (.t 25)], none⟩,
         ⟨some 22, .mv (.t 26), none⟩,
         ⟨some 27, .ext (.t 22) 0, none⟩,
         ⟨some 28, .ext (.t 22) 1, none⟩,
         ⟨some 7, .mv (.t 27), none⟩,
         ⟨some 8, .mv (.t 28), none⟩] [0, 2, 4, 7, 8])
     (.seq (.reg [⟨some 30, .mv (.t 0), none⟩,
          ⟨some 31, .ld (.t 4) (some 3), none⟩,
          ⟨some 32, .mv (.t 2), none⟩,
          ⟨some 33, .call 8 [(.t 30), (.t 31), (.t 32)], none⟩,
          ⟨some 29, .mv (.t 33), none⟩,
          ⟨some 34, .ext (.t 29) 0, none⟩,
          ⟨some 35, .ext (.t 29) 1, none⟩,
          ⟨some 9, .mv (.t 34), none⟩,
          ⟨some 10, .mv (.t 35), none⟩] [7, 8, 9, 10])
      (.seq (.reg [⟨some 36, .bld [(.d (.str [])), .nils] [(0, 1, (.c (.d (.str [67]))))], none⟩,
           ⟨some 37, .bsl 2 1 [(.d (.str [])), .nils] [(0, 2, (.t 36))], none⟩,
           ⟨some 38, .bld [(.d (.str [])), (.d (.int .i64 0)), .nils] [(0, 1, (.c (.d (.str [68])))), (2, 1, (.t 37))], none⟩,
           ⟨some 39, .bsl 3 1 [(.d (.str [])), (.d (.int .i64 0)), .nils] [(0, 3, (.t 38))], none⟩,
           ⟨some 11, .mv (.t 39), none⟩] [7, 8, 9, 10, 11])
       (.seq (.reg [⟨some 41, .mv (.t 11), none⟩,
            ⟨some 42, .bld [(.d (.int .i64 0)), (.d (.int .i64 0)), .nils] [(0, 1, (.c (.d (.int .i64 5))))], none⟩,
            ⟨some 43, .call 7 [(.t 41), (.t 42), (.c (.d (.int .i64 0)))], none⟩,
            ⟨some 40, .mv (.t 43), none⟩,
            ⟨some 44, .ext (.t 40) 0, none⟩,
            ⟨some 45, .ext (.t 40) 1, none⟩,
            ⟨some 12, .mv (.t 44), none⟩,
            ⟨some 13, .mv (.t 45), none⟩] [7, 8, 9, 10, 13])
        (.seq (.reg [⟨some 46, .mv (.t 8), none⟩,
             ⟨some 47, .mv (.t 10), none⟩,
             ⟨some 48, .binb .eql (.t 46) (.t 47), none⟩,
             ⟨some 49, .mv (.t 48), none⟩,
             ⟨some 50, .mv (.t 7), some (49, true)⟩,
             ⟨some 51, .mv (.t 9), some (49, true)⟩,
             ⟨some 52, .call 9 [(.t 50), (.t 51)], some (49, true)⟩,
             ⟨some 53, .pick (.t 49) (.t 52) (.c (.d (.bool false))), none⟩,
             ⟨some 54, .mv (.t 53), none⟩,
             ⟨some 55, .mv (.t 13), some (54, true)⟩,
             ⟨some 56, .pick (.t 54) (.t 55) (.c (.d (.bool false))), none⟩,
             ⟨some 6, .mv (.t 56), none⟩] [6])
         .ret)))))))

def t_law06_TypingFields : List (List Nat × List Nat) := [([0, 2, 4], []), ([0, 2, 4, 21], []), ([6], []), ([0, 2, 4, 7, 8], []), ([7, 8, 9, 10], []), ([7, 8, 9, 10, 11], []), ([7, 8, 9, 10, 13], []), ([6], [])]

noncomputable def x_law06_TypingFields : Cx := ⟨Try.prog, 3, Try.f3, 57, [], [9, 13, 11, 12, 14, 15, 16, 18, 19, 20, 24, 25, 5, 6, 7, 8], [.t 6]⟩
theorem g_law06_TypingFields : Good x_law06_TypingFields := ⟨Try.func3, by kernel_rfl⟩
theorem rs_law06_TypingFields : x_law06_TypingFields.rs = [.t 6] := rfl
theorem k_law06_TypingFields : compC Try.prog 57 [] [9, 13, 11, 12, 14, 15, 16, 18, 19, 20, 24, 25, 5, 6, 7, 8] (Try.f3.body.getD .skip) t_law06_TypingFields = some (c_law06_TypingFields, []) := by kernel_rfl
theorem b_law06_TypingFields : Try.f3.body = some (Try.f3.body.getD .skip) := by kernel_rfl
theorem i_law06_TypingFields {args : List AV} {σ : Heap} {K : AV → Heap → Prop} (hl : args.length ≤ 57) (h : Run x_law06_TypingFields K [.code c_law06_TypingFields] (argF args) E σ) : ACalls Try.prog 3 args σ K :=
  acalls_of (cx := x_law06_TypingFields) g_law06_TypingFields b_law06_TypingFields Try.ntmps3 hl (compC_rc x_law06_TypingFields _ _ _ _ k_law06_TypingFields) h

/-! ### amortcost/amortcostlaw06.TypingMatched -/
def c_law06_TypingMatched : C := (.seq (.reg [⟨some 3, .box (.t 0) false, none⟩,
       ⟨some 4, .box (.t 1) false, none⟩,
       ⟨some 6, .mv (.c (.d (.bool false))), none⟩] [2, 3, 4])
   (.seq (.seq (.reg [⟨some 11, .ld (.t 3) (some 3), none⟩,
         ⟨some 12, .call 6 [(.t 11)], none⟩,
         ⟨some 13, .un .not (.t 12), none⟩,
         ⟨some 14, .mv (.t 13), none⟩,
         ⟨some 15, .ld (.t 4) (some 3), some (14, false)⟩,
         ⟨some 16, .call 6 [(.t 15)], some (14, false)⟩,
         ⟨some 17, .un .not (.t 16), some (14, false)⟩,
         ⟨some 18, .pick (.t 14) (.c (.d (.bool true))) (.t 17), none⟩,
         ⟨some 19, .mv (.t 18), none⟩,
         ⟨some 20, .mv (.t 2), some (19, false)⟩,
         ⟨some 21, .call 10 [(.t 20), (.c (.d (.int .i64 4)))], some (19, false)⟩,
         ⟨some 22, .un .not (.t 21), some (19, false)⟩,
         ⟨some 23, .pick (.t 19) (.c (.d (.bool true))) (.t 22), none⟩,
         ⟨some 24, .mv (.t 23), none⟩,
         ⟨some 25, .ld (.t 3) (some 3), some (24, false)⟩,
         ⟨some 26, .call 11 [(.t 25)], some (24, false)⟩,
         ⟨some 27, .bin .gtr (.t 26) (.c (.d (.int .i64 40))), some (24, false)⟩,
         ⟨some 28, .pick (.t 24) (.c (.d (.bool true))) (.t 27), none⟩] [2, 3, 4, 28])
     (.cond (.t 28) (.seq (.reg [⟨some 6, .mv (.c (.d (.bool true))), none⟩] [6])
       .ret)
      .skip))
    (.seq (.seq (.reg [⟨some 30, .ld (.t 3) (some 3), none⟩,
          ⟨some 31, .ld (.t 4) (some 3), none⟩,
          ⟨some 32, .call 12 [(.t 30), (.t 31)], none⟩,
          ⟨some 29, .mv (.t 32), none⟩,
          ⟨some 33, .ext (.t 29) 0, none⟩,
          ⟨some 34, .ext (.t 29) 1, none⟩,
          ⟨some 7, .mv (.t 33), none⟩,
          ⟨some 8, .mv (.t 34), none⟩] [2, 3, 4, 7, 8])
      (.seq (.reg [⟨some 35, .mv (.t 8), none⟩,
           ⟨some 36, .mv (.t 35), none⟩,
           ⟨some 37, .ld (.t 3) (some 3), some (36, true)⟩,
           ⟨some 38, .mv (.t 7), some (36, true)⟩,
           ⟨some 39, .pcall 14 [(.t 37), (.t 38)], some (36, true)⟩,
           ⟨some 40, .ld (.t 4) (some 3), some (36, true)⟩,
           ⟨some 41, .pcall 13 [(.t 39), (.t 40)], some (36, true)⟩,
           ⟨some 42, .un .not (.t 41), some (36, true)⟩,
           ⟨some 43, .pick (.t 36) (.t 42) (.c (.d (.bool false))), none⟩] [2, 3, 43])
       (.cond (.t 43) (.seq (.reg [⟨some 6, .mv (.c (.d (.bool false))), none⟩] [6])
         .ret)
        .skip)))
     (.seq (.seq (.reg [⟨some 44, .ld (.t 3) (some 3), none⟩,
           ⟨some 45, .mv (.t 2), none⟩,
           ⟨some 46, .len (.t 45), none⟩,
           ⟨some 47, .call 15 [(.t 44), (.t 46)], none⟩] [2, 3, 47])
       (.cond (.t 47) (.seq (.reg [⟨some 49, .ld (.t 3) (some 3), none⟩,
             ⟨some 50, .ld (.t 3) (some 3), none⟩,
             ⟨some 51, .mv (.t 2), none⟩,
             ⟨some 52, .pcall 14 [(.t 50), (.t 51)], none⟩,
             ⟨some 53, .pcall 12 [(.t 49), (.t 52)], none⟩,
             ⟨some 48, .mv (.t 53), none⟩,
             ⟨some 54, .ext (.t 48) 0, none⟩,
             ⟨some 55, .ext (.t 48) 1, none⟩,
             ⟨some 9, .mv (.t 54), none⟩,
             ⟨some 10, .mv (.t 55), none⟩] [10])
         (.seq (.reg [⟨some 56, .mv (.t 10), none⟩,
              ⟨some 57, .un .not (.t 56), none⟩] [57])
          (.cond (.t 57) (.seq (.reg [⟨some 6, .mv (.c (.d (.bool false))), none⟩] [6])
            .ret)
           .skip)))
        .skip))
      (.seq (.reg [⟨some 58, .bld [(.d (.int .i64 0)), (.d (.int .i64 0)), .nils] [(0, 1, (.c (.d (.int .i64 1))))], none⟩,
           ⟨some 59, .call 16 [(.t 58)], none⟩,
           ⟨some 6, .mv (.t 59), none⟩] [6])
       .ret)))))

def t_law06_TypingMatched : List (List Nat × List Nat) := [([2, 3, 4], []), ([2, 3, 4, 28], []), ([6], []), ([2, 3, 4, 7, 8], []), ([2, 3, 43], []), ([6], []), ([2, 3, 47], []), ([10], []), ([57], []), ([6], []), ([6], [])]

noncomputable def x_law06_TypingMatched : Cx := ⟨Try.prog, 4, Try.f4, 60, [], [9, 13, 11, 12, 14, 15, 16, 18, 19, 20, 24, 25, 5, 6, 7, 8], [.t 6]⟩
theorem g_law06_TypingMatched : Good x_law06_TypingMatched := ⟨Try.func4, by kernel_rfl⟩
theorem rs_law06_TypingMatched : x_law06_TypingMatched.rs = [.t 6] := rfl
theorem k_law06_TypingMatched : compC Try.prog 60 [] [9, 13, 11, 12, 14, 15, 16, 18, 19, 20, 24, 25, 5, 6, 7, 8] (Try.f4.body.getD .skip) t_law06_TypingMatched = some (c_law06_TypingMatched, []) := by kernel_rfl
theorem b_law06_TypingMatched : Try.f4.body = some (Try.f4.body.getD .skip) := by kernel_rfl
theorem i_law06_TypingMatched {args : List AV} {σ : Heap} {K : AV → Heap → Prop} (hl : args.length ≤ 60) (h : Run x_law06_TypingMatched K [.code c_law06_TypingMatched] (argF args) E σ) : ACalls Try.prog 4 args σ K :=
  acalls_of (cx := x_law06_TypingMatched) g_law06_TypingMatched b_law06_TypingMatched Try.ntmps4 hl (compC_rc x_law06_TypingMatched _ _ _ _ k_law06_TypingMatched) h

/-! ### amortcost/amortcostkeep.Data -/
def c_keep_Data_L0 : C := (.seq (.reg [⟨some 50, .bin .lss (.t 49) (.t 48), none⟩] [7, 13, 14, 15, 30, 31, 32, 47, 48, 49, 50])
   (.seq (.cond (.t 50) .skip
     (.exit 4))
    (.seq (.block 5 (.seq (.reg [⟨some 51, .ix (.t 47) (.t 49) 3, none⟩,
           ⟨some 52, .ld (.t 51) (some 3), none⟩,
           ⟨some 9, .al [(.d (.int .i64 0)), (.d (.int .i64 0)), .nils] false, none⟩,
           ⟨none, .st (.t 9) (.t 52) 3, none⟩] [7, 9, 13, 14, 15, 30, 31, 32, 47, 48, 49])
       (.seq (.reg [⟨some 53, .ld (.t 9) (some 3), none⟩,
            ⟨some 54, .call 17 [(.t 53), (.t 7)], none⟩,
            ⟨some 55, .un .not (.t 54), none⟩] [7, 13, 14, 15, 30, 31, 32, 47, 48, 49, 55])
        (.cond (.t 55) (.seq (.reg [⟨some 2, .mv (.c (.d (.bool false))), none⟩] [2])
          .ret)
         .skip))))
     (.reg [⟨some 56, .bin .add (.t 49) (.c (.d (.int .i64 1))), none⟩,
         ⟨some 49, .mv (.t 56), none⟩] [7, 13, 14, 15, 30, 31, 32, 47, 48, 49]))))

def c_keep_Data_L1 : C := (.seq (.reg [⟨some 33, .bin .lss (.t 32) (.t 31), none⟩] [13, 14, 15, 30, 31, 32, 33])
   (.seq (.cond (.t 33) .skip
     (.exit 2))
    (.seq (.block 3 (.seq (.reg [⟨some 34, .ix (.t 30) (.t 32) 2, none⟩,
           ⟨some 35, .ld (.t 34) (some 2), none⟩,
           ⟨some 6, .al [(.d (.str [])), .nils] false, none⟩,
           ⟨none, .st (.t 6) (.t 35) 2, none⟩] [6, 13, 14, 15, 30, 31, 32])
       (.seq (.seq (.reg [⟨some 36, .fld (.t 6) 0, none⟩,
             ⟨some 37, .ld (.t 36) none, none⟩,
             ⟨some 38, .slen (.t 37), none⟩,
             ⟨some 39, .bin .gtr (.t 38) (.c (.d (.int .i64 40))), none⟩,
             ⟨some 40, .mv (.t 39), none⟩,
             ⟨some 41, .fld (.t 6) 1, some (40, false)⟩,
             ⟨some 42, .ld (.t 41) none, some (40, false)⟩,
             ⟨some 43, .len (.t 42), some (40, false)⟩,
             ⟨some 44, .bin .gtr (.t 43) (.c (.d (.int .i64 8))), some (40, false)⟩,
             ⟨some 45, .pick (.t 40) (.c (.d (.bool true))) (.t 44), none⟩] [6, 13, 14, 15, 30, 31, 32, 45])
         (.cond (.t 45) (.seq (.reg [⟨some 2, .mv (.c (.d (.bool false))), none⟩] [2])
           .ret)
          .skip))
        (.seq (.reg [⟨some 7, .al [(.d (.int .i64 0))] true, none⟩,
             ⟨none, .st (.t 7) (.c (.d (.int .i64 20))) 1, none⟩] [6, 7, 13, 14, 15, 30, 31, 32])
         (.seq (.reg [⟨some 46, .fld (.t 6) 1, none⟩,
              ⟨some 47, .ld (.t 46) none, none⟩,
              ⟨some 48, .len (.t 47), none⟩,
              ⟨some 49, .mv (.c (.d (.int .i64 0))), none⟩] [7, 13, 14, 15, 30, 31, 32, 47, 48, 49])
          (.block 4 (.loop c_keep_Data_L0)))))))
     (.reg [⟨some 57, .bin .add (.t 32) (.c (.d (.int .i64 1))), none⟩,
         ⟨some 32, .mv (.t 57), none⟩] [13, 14, 15, 30, 31, 32]))))

def c_keep_Data_L2 : C := (.seq (.reg [⟨some 16, .bin .lss (.t 15) (.t 14), none⟩] [13, 14, 15, 16])
   (.seq (.cond (.t 16) .skip
     (.exit 0))
    (.seq (.block 1 (.seq (.reg [⟨some 17, .ix (.t 13) (.t 15) 3, none⟩,
           ⟨some 18, .ld (.t 17) (some 3), none⟩,
           ⟨some 4, .al [(.d (.str [])), (.d (.int .i64 0)), .nils] false, none⟩,
           ⟨none, .st (.t 4) (.t 18) 3, none⟩] [4, 13, 14, 15])
       (.seq (.seq (.reg [⟨some 19, .fld (.t 4) 0, none⟩,
             ⟨some 20, .ld (.t 19) none, none⟩,
             ⟨some 21, .slen (.t 20), none⟩,
             ⟨some 22, .bin .gtr (.t 21) (.c (.d (.int .i64 40))), none⟩,
             ⟨some 23, .mv (.t 22), none⟩,
             ⟨some 24, .fld (.t 4) 2, some (23, false)⟩,
             ⟨some 25, .ld (.t 24) none, some (23, false)⟩,
             ⟨some 26, .len (.t 25), some (23, false)⟩,
             ⟨some 27, .bin .gtr (.t 26) (.c (.d (.int .i64 10))), some (23, false)⟩,
             ⟨some 28, .pick (.t 23) (.c (.d (.bool true))) (.t 27), none⟩] [4, 13, 14, 15, 28])
         (.cond (.t 28) (.seq (.reg [⟨some 2, .mv (.c (.d (.bool false))), none⟩] [2])
           .ret)
          .skip))
        (.seq (.reg [⟨some 29, .fld (.t 4) 2, none⟩,
             ⟨some 30, .ld (.t 29) none, none⟩,
             ⟨some 31, .len (.t 30), none⟩,
             ⟨some 32, .mv (.c (.d (.int .i64 0))), none⟩] [13, 14, 15, 30, 31, 32])
         (.block 2 (.loop c_keep_Data_L1))))))
     (.reg [⟨some 58, .bin .add (.t 15) (.c (.d (.int .i64 1))), none⟩,
         ⟨some 15, .mv (.t 58), none⟩] [13, 14, 15]))))

def c_keep_Data : C := (.seq (.reg [⟨some 2, .mv (.c (.d (.bool false))), none⟩] [0])
   (.seq (.seq (.reg [⟨some 10, .mv (.t 0), none⟩,
         ⟨some 11, .len (.t 10), none⟩,
         ⟨some 12, .bin .gtr (.t 11) (.c (.d (.int .i64 14))), none⟩] [0, 12])
     (.cond (.t 12) (.seq (.reg [⟨some 2, .mv (.c (.d (.bool false))), none⟩] [2])
       .ret)
      .skip))
    (.seq (.seq (.reg [⟨some 13, .mv (.t 0), none⟩,
          ⟨some 14, .len (.t 13), none⟩,
          ⟨some 15, .mv (.c (.d (.int .i64 0))), none⟩] [13, 14, 15])
      (.block 0 (.loop c_keep_Data_L2)))
     (.seq (.reg [⟨some 2, .mv (.c (.d (.bool true))), none⟩] [2])
      .ret))))

def t_keep_Data : List (List Nat × List Nat) := [([0], []), ([0, 12], []), ([2], []), ([13, 14, 15], []), ([13, 14, 15, 16], []), ([4, 13, 14, 15], []), ([4, 13, 14, 15, 28], []), ([2], []), ([13, 14, 15, 30, 31, 32], []), ([13, 14, 15, 30, 31, 32, 33], []), ([6, 13, 14, 15, 30, 31, 32], []), ([6, 13, 14, 15, 30, 31, 32, 45], []), ([2], []), ([6, 7, 13, 14, 15, 30, 31, 32], []), ([7, 13, 14, 15, 30, 31, 32, 47, 48, 49], []), ([7, 13, 14, 15, 30, 31, 32, 47, 48, 49, 50], []), ([7, 9, 13, 14, 15, 30, 31, 32, 47, 48, 49], []), ([7, 13, 14, 15, 30, 31, 32, 47, 48, 49, 55], []), ([2], []), ([7, 13, 14, 15, 30, 31, 32, 47, 48, 49], []), ([13, 14, 15, 30, 31, 32], []), ([13, 14, 15], []), ([2], [])]

noncomputable def x_keep_Data : Cx := ⟨Try.prog, 5, Try.f5, 59, [7], [9, 13, 11, 12, 14, 15, 16, 18, 19, 20, 24, 25, 5, 6, 7, 8], [.t 2]⟩
theorem g_keep_Data : Good x_keep_Data := ⟨Try.func5, by kernel_rfl⟩
theorem rs_keep_Data : x_keep_Data.rs = [.t 2] := rfl
theorem k_keep_Data : compC Try.prog 59 [7] [9, 13, 11, 12, 14, 15, 16, 18, 19, 20, 24, 25, 5, 6, 7, 8] (Try.f5.body.getD .skip) t_keep_Data = some (c_keep_Data, []) := by kernel_rfl
theorem b_keep_Data : Try.f5.body = some (Try.f5.body.getD .skip) := by kernel_rfl
theorem i_keep_Data {args : List AV} {σ : Heap} {K : AV → Heap → Prop} (hl : args.length ≤ 59) (h : Run x_keep_Data K [.code c_keep_Data] (argF args) E σ) : ACalls Try.prog 5 args σ K :=
  acalls_of (cx := x_keep_Data) g_keep_Data b_keep_Data Try.ntmps5 hl (compC_rc x_keep_Data _ _ _ _ k_keep_Data) h

/-! ### amortcost/amortcostkeep.Type -/
def c_keep_Type : C := (.seq (.reg [⟨some 1, .box (.t 0) false, none⟩,
       ⟨some 2, .mv (.c (.d (.bool false))), none⟩] [1])
   (.seq (.reg [⟨some 3, .al [(.d (.int .i64 0))] true, none⟩,
        ⟨none, .st (.t 3) (.c (.d (.int .i64 250))) 1, none⟩] [1, 3])
    (.seq (.reg [⟨some 4, .ld (.t 1) (some 3), none⟩,
         ⟨some 5, .call 17 [(.t 4), (.t 3)], none⟩,
         ⟨some 2, .mv (.t 5), none⟩] [2])
     .ret)))

def t_keep_Type : List (List Nat × List Nat) := [([1], []), ([1, 3], []), ([2], [])]

noncomputable def x_keep_Type : Cx := ⟨Try.prog, 6, Try.f6, 6, [3], [9, 13, 11, 12, 14, 15, 16, 18, 19, 20, 24, 25, 5, 6, 7, 8], [.t 2]⟩
theorem g_keep_Type : Good x_keep_Type := ⟨Try.func6, by kernel_rfl⟩
theorem rs_keep_Type : x_keep_Type.rs = [.t 2] := rfl
theorem k_keep_Type : compC Try.prog 6 [3] [9, 13, 11, 12, 14, 15, 16, 18, 19, 20, 24, 25, 5, 6, 7, 8] (Try.f6.body.getD .skip) t_keep_Type = some (c_keep_Type, []) := by kernel_rfl
theorem b_keep_Type : Try.f6.body = some (Try.f6.body.getD .skip) := by kernel_rfl
theorem i_keep_Type {args : List AV} {σ : Heap} {K : AV → Heap → Prop} (hl : args.length ≤ 6) (h : Run x_keep_Type K [.code c_keep_Type] (argF args) E σ) : ACalls Try.prog 6 args σ K :=
  acalls_of (cx := x_keep_Type) g_keep_Type b_keep_Type Try.ntmps6 hl (compC_rc x_keep_Type _ _ _ _ k_keep_Type) h

/-! ### amortcost/typing.Fields -/
def c_typing_Fields_L0 : C := (.seq (.reg [⟨some 62, .bin .lss (.t 61) (.t 60), none⟩] [2, 4, 8, 9, 59, 60, 61, 62])
   (.seq (.cond (.t 62) .skip
     (.exit 0))
    (.seq (.block 1 (.seq (.reg [⟨some 63, .mv (.t 61), none⟩,
           ⟨some 64, .ix (.t 59) (.t 61) 3, none⟩,
           ⟨some 65, .ld (.t 64) (some 3), none⟩,
           ⟨some 11, .al [(.d (.int .i64 0)), (.d (.int .i64 0)), .nils] false, none⟩,
           ⟨some 10, .mv (.t 63), none⟩,
           ⟨none, .st (.t 11) (.t 65) 3, none⟩] [2, 4, 8, 9, 10, 11, 59, 60, 61])
       (.reg [⟨some 66, .mv (.t 9), none⟩,
           ⟨some 67, .mv (.t 10), none⟩,
           ⟨some 68, .ld (.t 11) (some 3), none⟩,
           ⟨some 69, .call 18 [(.t 68)], none⟩,
           ⟨some 70, .ix (.t 66) (.t 67) 1, none⟩,
           ⟨none, .st (.t 70) (.t 69) 1, none⟩] [2, 4, 8, 9, 59, 60, 61])))
     (.reg [⟨some 71, .bin .add (.t 61) (.c (.d (.int .i64 1))), none⟩,
         ⟨some 61, .mv (.t 71), none⟩] [2, 4, 8, 9, 59, 60, 61]))))

def c_typing_Fields_L1 : C := (.seq (.reg [⟨some 80, .bin .lss (.t 79) (.t 78), none⟩] [2, 4, 8, 9, 77, 78, 79, 80])
   (.seq (.cond (.t 80) .skip
     (.exit 2))
    (.seq (.block 3 (.seq (.reg [⟨some 81, .ix (.t 77) (.t 79) 3, none⟩,
           ⟨some 82, .ld (.t 81) (some 3), none⟩,
           ⟨some 13, .al [(.d (.int .i64 0)), (.d (.int .i64 0)), .nils] false, none⟩,
           ⟨none, .st (.t 13) (.t 82) 3, none⟩] [2, 4, 8, 9, 13, 77, 78, 79])
       (.seq (.reg [⟨some 83, .ld (.t 13) (some 3), none⟩,
            ⟨some 84, .mv (.t 9), none⟩,
            ⟨some 85, .call 19 [(.t 83), (.t 84)], none⟩,
            ⟨some 86, .bin .gtr (.t 85) (.c (.d (.int .i64 200))), none⟩] [2, 4, 8, 9, 77, 78, 79, 86])
        (.cond (.t 86) (.seq (.reg [⟨some 6, .mv (.c .nils), none⟩,
              ⟨some 7, .mv (.c (.d (.bool false))), none⟩] [6, 7])
          .ret)
         .skip))))
     (.reg [⟨some 87, .bin .add (.t 79) (.c (.d (.int .i64 1))), none⟩,
         ⟨some 79, .mv (.t 87), none⟩] [2, 4, 8, 9, 77, 78, 79]))))

def c_typing_Fields_L2 : C := (.seq (.reg [⟨some 96, .bin .lss (.t 95) (.t 94), none⟩] [4, 14, 93, 94, 95, 96])
   (.seq (.cond (.t 96) .skip
     (.exit 4))
    (.seq (.block 5 (.seq (.reg [⟨some 97, .ix (.t 93) (.t 95) 3, none⟩,
           ⟨some 98, .ld (.t 97) (some 3), none⟩,
           ⟨some 16, .al [(.d (.int .i64 0)), (.d (.int .i64 0)), .nils] false, none⟩,
           ⟨none, .st (.t 16) (.t 98) 3, none⟩] [4, 14, 16, 93, 94, 95])
       (.reg [⟨some 99, .mv (.t 14), none⟩,
           ⟨some 100, .ld (.t 16) (some 3), none⟩,
           ⟨some 101, .fld (.t 4) 2, none⟩,
           ⟨some 102, .ld (.t 101) none, none⟩,
           ⟨some 103, .call 14 [(.t 100), (.t 102)], none⟩,
           ⟨some 104, .bsl 3 1 [(.d (.int .i64 0)), (.d (.int .i64 0)), .nils] [(0, 3, (.t 103))], none⟩,
           ⟨some 105, .app 25 3 40 (.t 99) (.t 104), none⟩,
           ⟨some 14, .mv (.t 105), none⟩] [4, 14, 93, 94, 95])))
     (.reg [⟨some 106, .bin .add (.t 95) (.c (.d (.int .i64 1))), none⟩,
         ⟨some 95, .mv (.t 106), none⟩] [4, 14, 93, 94, 95]))))

def c_typing_Fields : C := (.seq (.reg [⟨some 4, .box (.t 1) false, none⟩,
       ⟨some 6, .mv (.c .nils), none⟩,
       ⟨some 7, .mv (.c (.d (.bool false))), none⟩] [0, 2, 4])
   (.seq (.seq (.reg [⟨some 17, .fld (.t 4) 0, none⟩,
         ⟨some 18, .ld (.t 17) none, none⟩,
         ⟨some 19, .bin .neq (.t 18) (.c (.d (.int .i64 5))), none⟩,
         ⟨some 20, .mv (.t 19), none⟩,
         ⟨some 21, .fld (.t 4) 1, some (20, false)⟩,
         ⟨some 22, .ld (.t 21) none, some (20, false)⟩,
         ⟨some 23, .bin .lss (.t 22) (.c (.d (.int .i64 0))), some (20, false)⟩,
         ⟨some 24, .pick (.t 20) (.c (.d (.bool true))) (.t 23), none⟩,
         ⟨some 25, .mv (.t 24), none⟩,
         ⟨some 26, .fld (.t 4) 1, some (25, false)⟩,
         ⟨some 27, .ld (.t 26) none, some (25, false)⟩,
         ⟨some 28, .mv (.t 0), some (25, false)⟩,
         ⟨some 29, .len (.t 28), some (25, false)⟩,
         ⟨some 30, .bin .geq (.t 27) (.t 29), some (25, false)⟩,
         ⟨some 31, .pick (.t 25) (.c (.d (.bool true))) (.t 30), none⟩] [0, 2, 4, 31])
     (.cond (.t 31) (.seq (.reg [⟨some 6, .mv (.c .nils), none⟩,
           ⟨some 7, .mv (.c (.d (.bool false))), none⟩] [6, 7])
       .ret)
      .skip))
    (.seq (.reg [⟨some 32, .mv (.t 0), none⟩,
         ⟨some 33, .fld (.t 4) 1, none⟩,
         ⟨some 34, .ld (.t 33) none, none⟩,
         ⟨some 35, .ix (.t 32) (.t 34) 3, none⟩,
         ⟨some 36, .ld (.t 35) (some 3), none⟩,
         ⟨some 8, .al [(.d (.str [])), (.d (.int .i64 0)), .nils] false, none⟩,
         ⟨none, .st (.t 8) (.t 36) 3, none⟩] [2, 4, 8])
     (.seq (.seq (.reg [⟨some 37, .fld (.t 4) 2, none⟩,
           ⟨some 38, .ld (.t 37) none, none⟩,
           ⟨some 39, .len (.t 38), none⟩,
           ⟨some 40, .fld (.t 8) 1, none⟩,
           ⟨some 41, .ld (.t 40) none, none⟩,
           ⟨some 42, .bin .neq (.t 39) (.t 41), none⟩,
           ⟨some 43, .mv (.t 42), none⟩,
           ⟨some 44, .mv (.t 2), some (43, false)⟩,
           ⟨some 45, .bin .lss (.t 44) (.c (.d (.int .i64 0))), some (43, false)⟩,
           ⟨some 46, .pick (.t 43) (.c (.d (.bool true))) (.t 45), none⟩,
           ⟨some 47, .mv (.t 46), none⟩,
           ⟨some 48, .mv (.t 2), some (47, false)⟩,
           ⟨some 49, .fld (.t 8) 2, some (47, false)⟩,
           ⟨some 50, .ld (.t 49) none, some (47, false)⟩,
           ⟨some 51, .len (.t 50), some (47, false)⟩,
           ⟨some 52, .bin .geq (.t 48) (.t 51), some (47, false)⟩,
           ⟨some 53, .pick (.t 47) (.c (.d (.bool true))) (.t 52), none⟩] [2, 4, 8, 53])
       (.cond (.t 53) (.seq (.reg [⟨some 6, .mv (.c .nils), none⟩,
             ⟨some 7, .mv (.c (.d (.bool false))), none⟩] [6, 7])
         .ret)
        .skip))
      (.seq (.reg [⟨some 54, .fld (.t 4) 2, none⟩,
           ⟨some 55, .ld (.t 54) none, none⟩,
           ⟨some 56, .len (.t 55), none⟩,
           ⟨some 57, .msl 1 8 [(.d (.int .i64 0))] (.t 56) (.t 56), none⟩,
           ⟨some 9, .mv (.t 57), none⟩] [2, 4, 8, 9])
       (.seq (.seq (.reg [⟨some 58, .fld (.t 4) 2, none⟩,
             ⟨some 59, .ld (.t 58) none, none⟩,
             ⟨some 60, .len (.t 59), none⟩,
             ⟨some 61, .mv (.c (.d (.int .i64 0))), none⟩] [2, 4, 8, 9, 59, 60, 61])
         (.block 0 (.loop c_typing_Fields_L0)))
        (.seq (.seq (.reg [⟨some 72, .fld (.t 8) 2, none⟩,
              ⟨some 73, .ld (.t 72) none, none⟩,
              ⟨some 74, .mv (.t 2), none⟩,
              ⟨some 75, .ix (.t 73) (.t 74) 2, none⟩,
              ⟨some 76, .fld (.t 75) 1, none⟩,
              ⟨some 77, .ld (.t 76) none, none⟩,
              ⟨some 78, .len (.t 77), none⟩,
              ⟨some 79, .mv (.c (.d (.int .i64 0))), none⟩] [2, 4, 8, 9, 77, 78, 79])
          (.block 2 (.loop c_typing_Fields_L1)))
         (.seq (.reg [⟨some 14, .mv (.c .nils), none⟩] [2, 4, 8, 14])
          (.seq (.seq (.reg [⟨some 88, .fld (.t 8) 2, none⟩,
                ⟨some 89, .ld (.t 88) none, none⟩,
                ⟨some 90, .mv (.t 2), none⟩,
                ⟨some 91, .ix (.t 89) (.t 90) 2, none⟩,
                ⟨some 92, .fld (.t 91) 1, none⟩,
                ⟨some 93, .ld (.t 92) none, none⟩,
                ⟨some 94, .len (.t 93), none⟩,
                ⟨some 95, .mv (.c (.d (.int .i64 0))), none⟩] [4, 14, 93, 94, 95])
            (.block 4 (.loop c_typing_Fields_L2)))
           (.seq (.reg [⟨some 107, .mv (.t 14), none⟩,
                ⟨some 6, .mv (.t 107), none⟩,
                ⟨some 7, .mv (.c (.d (.bool true))), none⟩] [6, 7])
            .ret))))))))))

def t_typing_Fields : List (List Nat × List Nat) := [([0, 2, 4], []), ([0, 2, 4, 31], []), ([6, 7], []), ([2, 4, 8], []), ([2, 4, 8, 53], []), ([6, 7], []), ([2, 4, 8, 9], []), ([2, 4, 8, 9, 59, 60, 61], []), ([2, 4, 8, 9, 59, 60, 61, 62], []), ([2, 4, 8, 9, 10, 11, 59, 60, 61], []), ([2, 4, 8, 9, 59, 60, 61], []), ([2, 4, 8, 9, 59, 60, 61], []), ([2, 4, 8, 9, 77, 78, 79], []), ([2, 4, 8, 9, 77, 78, 79, 80], []), ([2, 4, 8, 9, 13, 77, 78, 79], []), ([2, 4, 8, 9, 77, 78, 79, 86], []), ([6, 7], []), ([2, 4, 8, 9, 77, 78, 79], []), ([2, 4, 8, 14], []), ([4, 14, 93, 94, 95], []), ([4, 14, 93, 94, 95, 96], []), ([4, 14, 16, 93, 94, 95], []), ([4, 14, 93, 94, 95], []), ([4, 14, 93, 94, 95], []), ([6, 7], [])]

noncomputable def x_typing_Fields : Cx := ⟨Try.prog, 7, Try.f7, 108, [], [9, 13, 11, 12, 14, 15, 16, 18, 19, 20, 24, 25, 5, 6, 7, 8], [.t 6, .t 7]⟩
theorem g_typing_Fields : Good x_typing_Fields := ⟨Try.func7, by kernel_rfl⟩
theorem rs_typing_Fields : x_typing_Fields.rs = [.t 6, .t 7] := rfl
theorem k_typing_Fields : compC Try.prog 108 [] [9, 13, 11, 12, 14, 15, 16, 18, 19, 20, 24, 25, 5, 6, 7, 8] (Try.f7.body.getD .skip) t_typing_Fields = some (c_typing_Fields, []) := by kernel_rfl
theorem b_typing_Fields : Try.f7.body = some (Try.f7.body.getD .skip) := by kernel_rfl
theorem i_typing_Fields {args : List AV} {σ : Heap} {K : AV → Heap → Prop} (hl : args.length ≤ 108) (h : Run x_typing_Fields K [.code c_typing_Fields] (argF args) E σ) : ACalls Try.prog 7 args σ K :=
  acalls_of (cx := x_typing_Fields) g_typing_Fields b_typing_Fields Try.ntmps7 hl (compC_rc x_typing_Fields _ _ _ _ k_typing_Fields) h

/-! ### amortcost/amortcostref6.Fields -/
def c_r6_Fields_L0 : C := (.seq (.reg [⟨some 66, .bin .lss (.t 65) (.t 64), none⟩] [4, 8, 63, 64, 65, 66])
   (.seq (.cond (.t 66) .skip
     (.exit 0))
    (.seq (.block 1 (.seq (.reg [⟨some 67, .ix (.t 63) (.t 65) 3, none⟩,
           ⟨some 68, .ld (.t 67) (some 3), none⟩,
           ⟨some 10, .al [(.d (.int .i64 0)), (.d (.int .i64 0)), .nils] false, none⟩,
           ⟨none, .st (.t 10) (.t 68) 3, none⟩] [4, 8, 10, 63, 64, 65])
       (.seq (.reg [⟨some 69, .ld (.t 10) (some 3), none⟩,
            ⟨some 70, .fld (.t 4) 2, none⟩,
            ⟨some 71, .ld (.t 70) none, none⟩,
            ⟨some 72, .call 20 [(.t 69), (.t 71)], none⟩,
            ⟨some 11, .al [(.d (.int .i64 0)), (.d (.int .i64 0)), .nils] false, none⟩,
            ⟨none, .st (.t 11) (.t 72) 3, none⟩] [4, 8, 11, 63, 64, 65])
        (.seq (.seq (.reg [⟨some 73, .ld (.t 11) (some 3), none⟩,
              ⟨some 74, .call 11 [(.t 73)], none⟩,
              ⟨some 75, .bin .gtr (.t 74) (.c (.d (.int .i64 200))), none⟩] [4, 8, 11, 63, 64, 65, 75])
          (.cond (.t 75) (.seq (.reg [⟨some 6, .mv (.c .nils), none⟩,
                ⟨some 7, .mv (.c (.d (.bool false))), none⟩] [6, 7])
            .ret)
           .skip))
         (.reg [⟨some 76, .mv (.t 8), none⟩,
             ⟨some 77, .ld (.t 11) (some 3), none⟩,
             ⟨some 78, .bsl 3 1 [(.d (.int .i64 0)), (.d (.int .i64 0)), .nils] [(0, 3, (.t 77))], none⟩,
             ⟨some 79, .app 25 3 40 (.t 76) (.t 78), none⟩,
             ⟨some 8, .mv (.t 79), none⟩] [4, 8, 63, 64, 65])))))
     (.reg [⟨some 80, .bin .add (.t 65) (.c (.d (.int .i64 1))), none⟩,
         ⟨some 65, .mv (.t 80), none⟩] [4, 8, 63, 64, 65]))))

def c_r6_Fields : C := (.seq (.reg [⟨some 4, .box (.t 1) false, none⟩,
       ⟨some 6, .mv (.c .nils), none⟩,
       ⟨some 7, .mv (.c (.d (.bool false))), none⟩] [0, 2, 4])
   (.seq (.seq (.reg [⟨some 12, .fld (.t 4) 0, none⟩,
         ⟨some 13, .ld (.t 12) none, none⟩,
         ⟨some 14, .bin .neq (.t 13) (.c (.d (.int .i64 5))), none⟩,
         ⟨some 15, .mv (.t 14), none⟩,
         ⟨some 16, .fld (.t 4) 1, some (15, false)⟩,
         ⟨some 17, .ld (.t 16) none, some (15, false)⟩,
         ⟨some 18, .bin .lss (.t 17) (.c (.d (.int .i64 0))), some (15, false)⟩,
         ⟨some 19, .pick (.t 15) (.c (.d (.bool true))) (.t 18), none⟩,
         ⟨some 20, .mv (.t 19), none⟩,
         ⟨some 21, .fld (.t 4) 1, some (20, false)⟩,
         ⟨some 22, .ld (.t 21) none, some (20, false)⟩,
         ⟨some 23, .mv (.t 0), some (20, false)⟩,
         ⟨some 24, .len (.t 23), some (20, false)⟩,
         ⟨some 25, .bin .geq (.t 22) (.t 24), some (20, false)⟩,
         ⟨some 26, .pick (.t 20) (.c (.d (.bool true))) (.t 25), none⟩,
         ⟨some 27, .mv (.t 26), none⟩,
         ⟨some 28, .fld (.t 4) 2, some (27, false)⟩,
         ⟨some 29, .ld (.t 28) none, some (27, false)⟩,
         ⟨some 30, .len (.t 29), some (27, false)⟩,
         ⟨some 31, .mv (.t 0), some (27, false)⟩,
         ⟨some 32, .fld (.t 4) 1, some (27, false)⟩,
         ⟨some 33, .ld (.t 32) none, some (27, false)⟩,
         ⟨some 34, .ix (.t 31) (.t 33) 3, some (27, false)⟩,
         ⟨some 35, .fld (.t 34) 1, some (27, false)⟩,
         ⟨some 36, .ld (.t 35) none, some (27, false)⟩,
         ⟨some 37, .bin .neq (.t 30) (.t 36), some (27, false)⟩,
         ⟨some 38, .pick (.t 27) (.c (.d (.bool true))) (.t 37), none⟩,
         ⟨some 39, .mv (.t 38), none⟩,
         ⟨some 40, .mv (.t 2), some (39, false)⟩,
         ⟨some 41, .bin .lss (.t 40) (.c (.d (.int .i64 0))), some (39, false)⟩,
         ⟨some 42, .pick (.t 39) (.c (.d (.bool true))) (.t 41), none⟩,
         ⟨some 43, .mv (.t 42), none⟩,
         ⟨some 44, .mv (.t 2), some (43, false)⟩,
         ⟨some 45, .mv (.t 0), some (43, false)⟩,
         ⟨some 46, .fld (.t 4) 1, some (43, false)⟩,
         ⟨some 47, .ld (.t 46) none, some (43, false)⟩,
         ⟨some 48, .ix (.t 45) (.t 47) 3, some (43, false)⟩,
         ⟨some 49, .fld (.t 48) 2, some (43, false)⟩,
         ⟨some 50, .ld (.t 49) none, some (43, false)⟩,
         ⟨some 51, .len (.t 50), some (43, false)⟩,
         ⟨some 52, .bin .geq (.t 44) (.t 51), some (43, false)⟩,
         ⟨some 53, .pick (.t 43) (.c (.d (.bool true))) (.t 52), none⟩] [0, 2, 4, 53])
     (.cond (.t 53) (.seq (.reg [⟨some 6, .mv (.c .nils), none⟩,
           ⟨some 7, .mv (.c (.d (.bool false))), none⟩] [6, 7])
       .ret)
      .skip))
    (.seq (.reg [⟨some 8, .mv (.c .nils), none⟩] [0, 2, 4, 8])
     (.seq (.seq (.reg [⟨some 54, .mv (.t 0), none⟩,
           ⟨some 55, .fld (.t 4) 1, none⟩,
           ⟨some 56, .ld (.t 55) none, none⟩,
           ⟨some 57, .ix (.t 54) (.t 56) 3, none⟩,
           ⟨some 58, .fld (.t 57) 2, none⟩,
           ⟨some 59, .ld (.t 58) none, none⟩,
           ⟨some 60, .mv (.t 2), none⟩,
           ⟨some 61, .ix (.t 59) (.t 60) 2, none⟩,
           ⟨some 62, .fld (.t 61) 1, none⟩,
           ⟨some 63, .ld (.t 62) none, none⟩,
           ⟨some 64, .len (.t 63), none⟩,
           ⟨some 65, .mv (.c (.d (.int .i64 0))), none⟩] [4, 8, 63, 64, 65])
       (.block 0 (.loop c_r6_Fields_L0)))
      (.seq (.reg [⟨some 81, .mv (.t 8), none⟩,
           ⟨some 6, .mv (.t 81), none⟩,
           ⟨some 7, .mv (.c (.d (.bool true))), none⟩] [6, 7])
       .ret)))))

def t_r6_Fields : List (List Nat × List Nat) := [([0, 2, 4], []), ([0, 2, 4, 53], []), ([6, 7], []), ([0, 2, 4, 8], []), ([4, 8, 63, 64, 65], []), ([4, 8, 63, 64, 65, 66], []), ([4, 8, 10, 63, 64, 65], []), ([4, 8, 11, 63, 64, 65], []), ([4, 8, 11, 63, 64, 65, 75], []), ([6, 7], []), ([4, 8, 63, 64, 65], []), ([4, 8, 63, 64, 65], []), ([6, 7], [])]

noncomputable def x_r6_Fields : Cx := ⟨Try.prog, 8, Try.f8, 82, [], [9, 13, 11, 12, 14, 15, 16, 18, 19, 20, 24, 25, 5, 6, 7, 8], [.t 6, .t 7]⟩
theorem g_r6_Fields : Good x_r6_Fields := ⟨Try.func8, by kernel_rfl⟩
theorem rs_r6_Fields : x_r6_Fields.rs = [.t 6, .t 7] := rfl
theorem k_r6_Fields : compC Try.prog 82 [] [9, 13, 11, 12, 14, 15, 16, 18, 19, 20, 24, 25, 5, 6, 7, 8] (Try.f8.body.getD .skip) t_r6_Fields = some (c_r6_Fields, []) := by kernel_rfl
theorem b_r6_Fields : Try.f8.body = some (Try.f8.body.getD .skip) := by kernel_rfl
theorem i_r6_Fields {args : List AV} {σ : Heap} {K : AV → Heap → Prop} (hl : args.length ≤ 82) (h : Run x_r6_Fields K [.code c_r6_Fields] (argF args) E σ) : ACalls Try.prog 8 args σ K :=
  acalls_of (cx := x_r6_Fields) g_r6_Fields b_r6_Fields Try.ntmps8 hl (compC_rc x_r6_Fields _ _ _ _ k_r6_Fields) h

/-! ### amortcost/amortcostkeep.SameTypes -/
def c_keep_SameTypes_L0 : C := (.seq (.reg [⟨some 14, .bin .lss (.t 13) (.t 12), none⟩] [0, 1, 12, 13, 14])
   (.seq (.cond (.t 14) .skip
     (.exit 0))
    (.seq (.block 1 (.seq (.reg [⟨some 15, .mv (.t 13), none⟩,
           ⟨some 5, .mv (.t 15), none⟩] [0, 1, 5, 12, 13])
       (.seq (.reg [⟨some 16, .mv (.t 0), none⟩,
            ⟨some 17, .mv (.t 5), none⟩,
            ⟨some 18, .ix (.t 16) (.t 17) 3, none⟩,
            ⟨some 19, .ld (.t 18) (some 3), none⟩,
            ⟨some 20, .mv (.t 1), none⟩,
            ⟨some 21, .mv (.t 5), none⟩,
            ⟨some 22, .ix (.t 20) (.t 21) 3, none⟩,
            ⟨some 23, .ld (.t 22) (some 3), none⟩,
            ⟨some 24, .pcall 13 [(.t 19), (.t 23)], none⟩,
            ⟨some 25, .un .not (.t 24), none⟩] [0, 1, 12, 13, 25])
        (.cond (.t 25) (.seq (.reg [⟨some 4, .mv (.c (.d (.bool false))), none⟩] [4])
          .ret)
         .skip))))
     (.reg [⟨some 26, .bin .add (.t 13) (.c (.d (.int .i64 1))), none⟩,
         ⟨some 13, .mv (.t 26), none⟩] [0, 1, 12, 13]))))

def c_keep_SameTypes : C := (.seq (.reg [⟨some 4, .mv (.c (.d (.bool false))), none⟩] [0, 1])
   (.seq (.seq (.reg [⟨some 6, .mv (.t 0), none⟩,
         ⟨some 7, .len (.t 6), none⟩,
         ⟨some 8, .mv (.t 1), none⟩,
         ⟨some 9, .len (.t 8), none⟩,
         ⟨some 10, .bin .neq (.t 7) (.t 9), none⟩] [0, 1, 10])
     (.cond (.t 10) (.seq (.reg [⟨some 4, .mv (.c (.d (.bool false))), none⟩] [4])
       .ret)
      .skip))
    (.seq (.seq (.reg [⟨some 11, .mv (.t 0), none⟩,
          ⟨some 12, .len (.t 11), none⟩,
          ⟨some 13, .mv (.c (.d (.int .i64 0))), none⟩] [0, 1, 12, 13])
      (.block 0 (.loop c_keep_SameTypes_L0)))
     (.seq (.reg [⟨some 4, .mv (.c (.d (.bool true))), none⟩] [4])
      .ret))))

def t_keep_SameTypes : List (List Nat × List Nat) := [([0, 1], []), ([0, 1, 10], []), ([4], []), ([0, 1, 12, 13], []), ([0, 1, 12, 13, 14], []), ([0, 1, 5, 12, 13], []), ([0, 1, 12, 13, 25], []), ([4], []), ([0, 1, 12, 13], []), ([4], [])]

noncomputable def x_keep_SameTypes : Cx := ⟨Try.prog, 9, Try.f9, 27, [], [9, 13, 11, 12, 14, 15, 16, 18, 19, 20, 24, 25, 5, 6, 7, 8], [.t 4]⟩
theorem g_keep_SameTypes : Good x_keep_SameTypes := ⟨Try.func9, by kernel_rfl⟩
theorem rs_keep_SameTypes : x_keep_SameTypes.rs = [.t 4] := rfl
theorem k_keep_SameTypes : compC Try.prog 27 [] [9, 13, 11, 12, 14, 15, 16, 18, 19, 20, 24, 25, 5, 6, 7, 8] (Try.f9.body.getD .skip) t_keep_SameTypes = some (c_keep_SameTypes, []) := by kernel_rfl
theorem b_keep_SameTypes : Try.f9.body = some (Try.f9.body.getD .skip) := by kernel_rfl
theorem i_keep_SameTypes {args : List AV} {σ : Heap} {K : AV → Heap → Prop} (hl : args.length ≤ 27) (h : Run x_keep_SameTypes K [.code c_keep_SameTypes] (argF args) E σ) : ACalls Try.prog 9 args σ K :=
  acalls_of (cx := x_keep_SameTypes) g_keep_SameTypes b_keep_SameTypes Try.ntmps9 hl (compC_rc x_keep_SameTypes _ _ _ _ k_keep_SameTypes) h

/-! ### amortcost/amortcostkeep.Types -/
def c_keep_Types_L0 : C := (.seq (.seq (.reg [⟨some 6, .mv (.t 5), none⟩,
        ⟨some 7, .mv (.t 0), none⟩,
        ⟨some 8, .len (.t 7), none⟩,
        ⟨some 9, .bin .lss (.t 6) (.t 8), none⟩,
        ⟨some 10, .mv (.t 9), none⟩,
        ⟨some 11, .mv (.t 5), some (10, true)⟩,
        ⟨some 12, .mv (.t 1), some (10, true)⟩,
        ⟨some 13, .bin .leq (.t 11) (.t 12), some (10, true)⟩,
        ⟨some 14, .pick (.t 10) (.t 13) (.c (.d (.bool false))), none⟩] [0, 1, 5, 14])
    (.cond (.t 14) .skip
     (.exit 0)))
   (.seq (.block 1 (.seq (.reg [⟨some 17, .mv (.t 0), none⟩,
          ⟨some 18, .mv (.t 5), none⟩,
          ⟨some 19, .ix (.t 17) (.t 18) 3, none⟩,
          ⟨some 20, .ld (.t 19) (some 3), none⟩,
          ⟨some 21, .call 6 [(.t 20)], none⟩,
          ⟨some 22, .un .not (.t 21), none⟩] [0, 1, 5, 22])
      (.cond (.t 22) (.seq (.reg [⟨some 4, .mv (.c (.d (.bool false))), none⟩] [4])
        .ret)
       .skip)))
    (.reg [⟨some 15, .mv (.t 5), none⟩,
        ⟨some 16, .bin .add (.t 15) (.c (.d (.int .i64 1))), none⟩,
        ⟨some 5, .mv (.t 16), none⟩] [0, 1, 5])))

def c_keep_Types : C := (.seq (.reg [⟨some 4, .mv (.c (.d (.bool false))), none⟩] [0, 1])
   (.seq (.seq (.reg [⟨some 5, .mv (.c (.d (.int .i64 0))), none⟩] [0, 1, 5])
     (.block 0 (.loop c_keep_Types_L0)))
    (.seq (.reg [⟨some 23, .mv (.t 0), none⟩,
         ⟨some 24, .len (.t 23), none⟩,
         ⟨some 25, .mv (.t 1), none⟩,
         ⟨some 26, .bin .leq (.t 24) (.t 25), none⟩,
         ⟨some 4, .mv (.t 26), none⟩] [4])
     .ret)))

def t_keep_Types : List (List Nat × List Nat) := [([0, 1], []), ([0, 1, 5], []), ([0, 1, 5, 14], []), ([0, 1, 5, 22], []), ([4], []), ([0, 1, 5], []), ([4], [])]

noncomputable def x_keep_Types : Cx := ⟨Try.prog, 10, Try.f10, 27, [], [9, 13, 11, 12, 14, 15, 16, 18, 19, 20, 24, 25, 5, 6, 7, 8], [.t 4]⟩
theorem g_keep_Types : Good x_keep_Types := ⟨Try.func10, by kernel_rfl⟩
theorem rs_keep_Types : x_keep_Types.rs = [.t 4] := rfl
theorem k_keep_Types : compC Try.prog 27 [] [9, 13, 11, 12, 14, 15, 16, 18, 19, 20, 24, 25, 5, 6, 7, 8] (Try.f10.body.getD .skip) t_keep_Types = some (c_keep_Types, []) := by kernel_rfl
theorem b_keep_Types : Try.f10.body = some (Try.f10.body.getD .skip) := by kernel_rfl
theorem i_keep_Types {args : List AV} {σ : Heap} {K : AV → Heap → Prop} (hl : args.length ≤ 27) (h : Run x_keep_Types K [.code c_keep_Types] (argF args) E σ) : ACalls Try.prog 10 args σ K :=
  acalls_of (cx := x_keep_Types) g_keep_Types b_keep_Types Try.ntmps10 hl (compC_rc x_keep_Types _ _ _ _ k_keep_Types) h

/-! ### amortcost/amortcostref6.Size -/
def c_r6_Size_L0 : C := (.seq (.seq (.reg [⟨some 5, .mv (.t 4), none⟩,
        ⟨some 6, .fld (.t 1) 2, none⟩,
        ⟨some 7, .ld (.t 6) none, none⟩,
        ⟨some 8, .len (.t 7), none⟩,
        ⟨some 9, .bin .lss (.t 5) (.t 8), none⟩] [1, 3, 4, 9])
    (.cond (.t 9) .skip
     (.exit 0)))
   (.seq (.block 1 (.reg [⟨some 12, .mv (.t 3), none⟩,
         ⟨some 13, .fld (.t 1) 2, none⟩,
         ⟨some 14, .ld (.t 13) none, none⟩,
         ⟨some 15, .mv (.t 4), none⟩,
         ⟨some 16, .ix (.t 14) (.t 15) 3, none⟩,
         ⟨some 17, .ld (.t 16) (some 3), none⟩,
         ⟨some 18, .call 11 [(.t 17)], none⟩,
         ⟨some 19, .bin .add (.t 12) (.t 18), none⟩,
         ⟨some 3, .mv (.t 19), none⟩] [1, 3, 4]))
    (.reg [⟨some 10, .mv (.t 4), none⟩,
        ⟨some 11, .bin .add (.t 10) (.c (.d (.int .i64 1))), none⟩,
        ⟨some 4, .mv (.t 11), none⟩] [1, 3, 4])))

def c_r6_Size : C := (.seq (.reg [⟨some 1, .box (.t 0) false, none⟩,
       ⟨some 2, .mv (.c (.d (.int .i64 0))), none⟩] [1])
   (.seq (.reg [⟨some 3, .mv (.c (.d (.int .i64 1))), none⟩] [1, 3])
    (.seq (.seq (.reg [⟨some 4, .mv (.c (.d (.int .i64 0))), none⟩] [1, 3, 4])
      (.block 0 (.loop c_r6_Size_L0)))
     (.seq (.reg [⟨some 20, .mv (.t 3), none⟩,
          ⟨some 2, .mv (.t 20), none⟩] [2])
      .ret))))

def t_r6_Size : List (List Nat × List Nat) := [([1], []), ([1, 3], []), ([1, 3, 4], []), ([1, 3, 4, 9], []), ([1, 3, 4], []), ([1, 3, 4], []), ([2], [])]

noncomputable def x_r6_Size : Cx := ⟨Try.prog, 11, Try.f11, 21, [], [9, 13, 11, 12, 14, 15, 16, 18, 19, 20, 24, 25, 5, 6, 7, 8], [.t 2]⟩
theorem g_r6_Size : Good x_r6_Size := ⟨Try.func11, by kernel_rfl⟩
theorem rs_r6_Size : x_r6_Size.rs = [.t 2] := rfl
theorem k_r6_Size : compC Try.prog 21 [] [9, 13, 11, 12, 14, 15, 16, 18, 19, 20, 24, 25, 5, 6, 7, 8] (Try.f11.body.getD .skip) t_r6_Size = some (c_r6_Size, []) := by kernel_rfl
theorem b_r6_Size : Try.f11.body = some (Try.f11.body.getD .skip) := by kernel_rfl
theorem i_r6_Size {args : List AV} {σ : Heap} {K : AV → Heap → Prop} (hl : args.length ≤ 21) (h : Run x_r6_Size K [.code c_r6_Size] (argF args) E σ) : ACalls Try.prog 11 args σ K :=
  acalls_of (cx := x_r6_Size) g_r6_Size b_r6_Size Try.ntmps11 hl (compC_rc x_r6_Size _ _ _ _ k_r6_Size) h

/-! ### amortcost/typing.Match -/
def c_typing_Match_L0 : C := (.seq (.reg [⟨some 26, .bin .lss (.t 25) (.t 24), none⟩] [6, 7, 24, 25, 26])
   (.seq (.cond (.t 26) .skip
     (.exit 0))
    (.seq (.block 1 (.seq (.reg [⟨some 27, .mv (.t 25), none⟩,
           ⟨some 8, .mv (.t 27), none⟩] [6, 7, 8, 24, 25])
       (.seq (.reg [⟨some 28, .mv (.t 7), none⟩,
            ⟨some 29, .mv (.t 8), none⟩,
            ⟨some 30, .bld [(.d (.int .i64 0)), (.d (.int .i64 0)), .nils] [(0, 1, (.c (.d (.int .i64 3))))], none⟩,
            ⟨some 31, .ix (.t 28) (.t 29) 3, none⟩,
            ⟨none, .st (.t 31) (.t 30) 3, none⟩] [6, 7, 8, 24, 25])
        (.seq (.reg [⟨some 32, .mv (.t 6), none⟩,
             ⟨some 33, .nck (.t 32), none⟩,
             ⟨some 34, .fld (.t 33) 0, none⟩,
             ⟨some 35, .ld (.t 34) none, none⟩,
             ⟨some 36, .mv (.t 8), none⟩,
             ⟨some 37, .ix (.t 35) (.t 36) 1, none⟩,
             ⟨some 38, .ld (.t 37) none, none⟩] [6, 7, 8, 24, 25, 38])
         (.cond (.t 38) (.reg [⟨some 39, .mv (.t 7), none⟩,
              ⟨some 40, .mv (.t 8), none⟩,
              ⟨some 41, .mv (.t 6), none⟩,
              ⟨some 42, .nck (.t 41), none⟩,
              ⟨some 43, .fld (.t 42) 1, none⟩,
              ⟨some 44, .ld (.t 43) none, none⟩,
              ⟨some 45, .mv (.t 8), none⟩,
              ⟨some 46, .ix (.t 44) (.t 45) 3, none⟩,
              ⟨some 47, .ld (.t 46) (some 3), none⟩,
              ⟨some 48, .call 14 [(.t 47), (.c .nils)], none⟩,
              ⟨some 49, .ix (.t 39) (.t 40) 3, none⟩,
              ⟨none, .st (.t 49) (.t 48) 3, none⟩] [6, 7, 24, 25])
          .skip)))))
     (.reg [⟨some 50, .bin .add (.t 25) (.c (.d (.int .i64 1))), none⟩,
         ⟨some 25, .mv (.t 50), none⟩] [6, 7, 24, 25]))))

def c_typing_Match : C := (.seq (.reg [⟨some 2, .box (.t 0) false, none⟩,
       ⟨some 3, .box (.t 1) false, none⟩,
       ⟨some 4, .mv (.c .nils), none⟩,
       ⟨some 5, .mv (.c (.d (.bool false))), none⟩] [2, 3])
   (.seq (.regT (.alt ⟨some 9, .msl 1 1 [(.d (.bool false))] (.c (.d (.int .i64 101))) (.c (.d (.int .i64 101))), none⟩
   (.one ⟨some 10, .msl 3 40 [(.d (.int .i64 0)), (.d (.int .i64 0)), .nils] (.c (.d (.int .i64 101))) (.c (.d (.int .i64 101))), none⟩
   (.one ⟨some 11, .bld [.nils, .nils, (.d (.int .i64 0))] [(0, 1, (.t 9)), (1, 1, (.t 10))], none⟩
   (.one ⟨some 12, .box (.t 11) true, none⟩
   (.one ⟨some 6, .mv (.t 12), none⟩
   .done))))
   (.alt ⟨some 10, .msl 3 40 [(.d (.int .i64 0)), (.d (.int .i64 0)), .nils] (.c (.d (.int .i64 101))) (.c (.d (.int .i64 101))), none⟩
   (.one ⟨some 9, .msl 1 1 [(.d (.bool false))] (.c (.d (.int .i64 101))) (.c (.d (.int .i64 101))), none⟩
   (.one ⟨some 11, .bld [.nils, .nils, (.d (.int .i64 0))] [(0, 1, (.t 9)), (1, 1, (.t 10))], none⟩
   (.one ⟨some 12, .box (.t 11) true, none⟩
   (.one ⟨some 6, .mv (.t 12), none⟩
   .done))))
   .done)) [2, 3, 6])
    (.seq (.seq (.reg [⟨some 13, .mv (.t 6), none⟩,
          ⟨some 14, .ld (.t 2) (some 3), none⟩,
          ⟨some 15, .ld (.t 3) (some 3), none⟩,
          ⟨some 16, .call 21 [(.t 13), (.t 14), (.t 15)], none⟩,
          ⟨some 17, .un .not (.t 16), none⟩] [6, 17])
      (.cond (.t 17) (.seq (.reg [⟨some 4, .mv (.c .nils), none⟩,
            ⟨some 5, .mv (.c (.d (.bool false))), none⟩] [4, 5])
        .ret)
       .skip))
     (.seq (.reg [⟨some 18, .mv (.t 6), none⟩,
          ⟨some 19, .nck (.t 18), none⟩,
          ⟨some 20, .fld (.t 19) 2, none⟩,
          ⟨some 21, .ld (.t 20) none, none⟩,
          ⟨some 22, .msl 3 40 [(.d (.int .i64 0)), (.d (.int .i64 0)), .nils] (.t 21) (.t 21), none⟩,
          ⟨some 7, .mv (.t 22), none⟩] [6, 7])
      (.seq (.seq (.reg [⟨some 23, .mv (.t 7), none⟩,
            ⟨some 24, .len (.t 23), none⟩,
            ⟨some 25, .mv (.c (.d (.int .i64 0))), none⟩] [6, 7, 24, 25])
        (.block 0 (.loop c_typing_Match_L0)))
       (.seq (.reg [⟨some 51, .mv (.t 7), none⟩,
            ⟨some 4, .mv (.t 51), none⟩,
            ⟨some 5, .mv (.c (.d (.bool true))), none⟩] [4, 5])
        .ret))))))

def t_typing_Match : List (List Nat × List Nat) := [([2, 3], []), ([2, 3, 6], []), ([6, 17], []), ([4, 5], []), ([6, 7], []), ([6, 7, 24, 25], []), ([6, 7, 24, 25, 26], []), ([6, 7, 8, 24, 25], []), ([6, 7, 8, 24, 25], []), ([6, 7, 8, 24, 25, 38], []), ([6, 7, 24, 25], []), ([6, 7, 24, 25], []), ([4, 5], [])]

noncomputable def x_typing_Match : Cx := ⟨Try.prog, 12, Try.f12, 52, [12], [9, 13, 11, 12, 14, 15, 16, 18, 19, 20, 24, 25, 5, 6, 7, 8], [.t 4, .t 5]⟩
theorem g_typing_Match : Good x_typing_Match := ⟨Try.func12, by kernel_rfl⟩
theorem rs_typing_Match : x_typing_Match.rs = [.t 4, .t 5] := rfl
theorem k_typing_Match : compC Try.prog 52 [12] [9, 13, 11, 12, 14, 15, 16, 18, 19, 20, 24, 25, 5, 6, 7, 8] (Try.f12.body.getD .skip) t_typing_Match = some (c_typing_Match, []) := by kernel_rfl
theorem b_typing_Match : Try.f12.body = some (Try.f12.body.getD .skip) := by kernel_rfl
theorem i_typing_Match {args : List AV} {σ : Heap} {K : AV → Heap → Prop} (hl : args.length ≤ 52) (h : Run x_typing_Match K [.code c_typing_Match] (argF args) E σ) : ACalls Try.prog 12 args σ K :=
  acalls_of (cx := x_typing_Match) g_typing_Match b_typing_Match Try.ntmps12 hl (compC_rc x_typing_Match _ _ _ _ k_typing_Match) h

/-! ### amortcost/amortcostkeep.SameType -/
def c_keep_SameType : C := (.seq (.reg [⟨some 2, .box (.t 0) false, none⟩,
       ⟨some 3, .box (.t 1) false, none⟩,
       ⟨some 4, .mv (.c (.d (.bool false))), none⟩] [2, 3])
   (.seq (.reg [⟨some 5, .fld (.t 2) 0, none⟩,
        ⟨some 6, .ld (.t 5) none, none⟩,
        ⟨some 7, .fld (.t 3) 0, none⟩,
        ⟨some 8, .ld (.t 7) none, none⟩,
        ⟨some 9, .bin .eql (.t 6) (.t 8), none⟩,
        ⟨some 10, .mv (.t 9), none⟩,
        ⟨some 11, .fld (.t 2) 1, some (10, true)⟩,
        ⟨some 12, .ld (.t 11) none, some (10, true)⟩,
        ⟨some 13, .fld (.t 3) 1, some (10, true)⟩,
        ⟨some 14, .ld (.t 13) none, some (10, true)⟩,
        ⟨some 15, .bin .eql (.t 12) (.t 14), some (10, true)⟩,
        ⟨some 16, .pick (.t 10) (.t 15) (.c (.d (.bool false))), none⟩,
        ⟨some 17, .mv (.t 16), none⟩,
        ⟨some 18, .fld (.t 2) 2, some (17, true)⟩,
        ⟨some 19, .ld (.t 18) none, some (17, true)⟩,
        ⟨some 20, .fld (.t 3) 2, some (17, true)⟩,
        ⟨some 21, .ld (.t 20) none, some (17, true)⟩,
        ⟨some 22, .call 9 [(.t 19), (.t 21)], some (17, true)⟩,
        ⟨some 23, .pick (.t 17) (.t 22) (.c (.d (.bool false))), none⟩,
        ⟨some 4, .mv (.t 23), none⟩] [4])
    .ret))

def t_keep_SameType : List (List Nat × List Nat) := [([2, 3], []), ([4], [])]

noncomputable def x_keep_SameType : Cx := ⟨Try.prog, 13, Try.f13, 24, [], [9, 13, 11, 12, 14, 15, 16, 18, 19, 20, 24, 25, 5, 6, 7, 8], [.t 4]⟩
theorem g_keep_SameType : Good x_keep_SameType := ⟨Try.func13, by kernel_rfl⟩
theorem rs_keep_SameType : x_keep_SameType.rs = [.t 4] := rfl
theorem k_keep_SameType : compC Try.prog 24 [] [9, 13, 11, 12, 14, 15, 16, 18, 19, 20, 24, 25, 5, 6, 7, 8] (Try.f13.body.getD .skip) t_keep_SameType = some (c_keep_SameType, []) := by kernel_rfl
theorem b_keep_SameType : Try.f13.body = some (Try.f13.body.getD .skip) := by kernel_rfl
theorem i_keep_SameType {args : List AV} {σ : Heap} {K : AV → Heap → Prop} (hl : args.length ≤ 24) (h : Run x_keep_SameType K [.code c_keep_SameType] (argF args) E σ) : ACalls Try.prog 13 args σ K :=
  acalls_of (cx := x_keep_SameType) g_keep_SameType b_keep_SameType Try.ntmps13 hl (compC_rc x_keep_SameType _ _ _ _ k_keep_SameType) h

/-! ### amortcost/typing.Subst -/
def c_typing_Subst_L0 : C := (.seq (.reg [⟨some 38, .bin .lss (.t 37) (.t 36), none⟩] [1, 4, 5, 35, 36, 37, 38])
   (.seq (.cond (.t 38) .skip
     (.exit 0))
    (.seq (.block 1 (.seq (.reg [⟨some 39, .ix (.t 35) (.t 37) 3, none⟩,
           ⟨some 40, .ld (.t 39) (some 3), none⟩,
           ⟨some 7, .al [(.d (.int .i64 0)), (.d (.int .i64 0)), .nils] false, none⟩,
           ⟨none, .st (.t 7) (.t 40) 3, none⟩] [1, 4, 5, 7, 35, 36, 37])
       (.reg [⟨some 41, .fld (.t 5) 2, none⟩,
           ⟨some 42, .ld (.t 41) none, none⟩,
           ⟨some 43, .ld (.t 7) (some 3), none⟩,
           ⟨some 44, .mv (.t 1), none⟩,
           ⟨some 45, .pcall 14 [(.t 43), (.t 44)], none⟩,
           ⟨some 46, .bsl 3 1 [(.d (.int .i64 0)), (.d (.int .i64 0)), .nils] [(0, 3, (.t 45))], none⟩,
           ⟨some 47, .app 25 3 40 (.t 42) (.t 46), none⟩,
           ⟨some 48, .fld (.t 5) 2, none⟩,
           ⟨none, .st (.t 48) (.t 47) 1, none⟩] [1, 4, 5, 35, 36, 37])))
     (.reg [⟨some 49, .bin .add (.t 37) (.c (.d (.int .i64 1))), none⟩,
         ⟨some 37, .mv (.t 49), none⟩] [1, 4, 5, 35, 36, 37]))))

def c_typing_Subst : C := (.seq (.reg [⟨some 2, .box (.t 0) false, none⟩,
       ⟨some 4, .al [(.d (.int .i64 0)), (.d (.int .i64 0)), .nils] false, none⟩] [1, 2, 4])
   (.seq (.seq (.reg [⟨some 8, .fld (.t 2) 0, none⟩,
         ⟨some 9, .ld (.t 8) none, none⟩,
         ⟨some 10, .bin .eql (.t 9) (.c (.d (.int .i64 4))), none⟩,
         ⟨some 11, .mv (.t 10), none⟩,
         ⟨some 12, .fld (.t 2) 1, some (11, true)⟩,
         ⟨some 13, .ld (.t 12) none, some (11, true)⟩,
         ⟨some 14, .bin .geq (.t 13) (.c (.d (.int .i64 0))), some (11, true)⟩,
         ⟨some 15, .pick (.t 11) (.t 14) (.c (.d (.bool false))), none⟩,
         ⟨some 16, .mv (.t 15), none⟩,
         ⟨some 17, .fld (.t 2) 1, some (16, true)⟩,
         ⟨some 18, .ld (.t 17) none, some (16, true)⟩,
         ⟨some 19, .mv (.t 1), some (16, true)⟩,
         ⟨some 20, .len (.t 19), some (16, true)⟩,
         ⟨some 21, .bin .lss (.t 18) (.t 20), some (16, true)⟩,
         ⟨some 22, .pick (.t 16) (.t 21) (.c (.d (.bool false))), none⟩] [1, 2, 4, 22])
     (.cond (.t 22) (.seq (.reg [⟨some 23, .mv (.t 1), none⟩,
           ⟨some 24, .fld (.t 2) 1, none⟩,
           ⟨some 25, .ld (.t 24) none, none⟩,
           ⟨some 26, .ix (.t 23) (.t 25) 3, none⟩,
           ⟨some 27, .ld (.t 26) (some 3), none⟩,
           ⟨some 28, .call 14 [(.t 27), (.c .nils)], none⟩,
           ⟨none, .st (.t 4) (.t 28) 3, none⟩] [4])
       .ret)
      .skip))
    (.seq (.reg [⟨some 29, .fld (.t 2) 0, none⟩,
         ⟨some 30, .ld (.t 29) none, none⟩,
         ⟨some 31, .fld (.t 2) 1, none⟩,
         ⟨some 32, .ld (.t 31) none, none⟩,
         ⟨some 33, .bld [(.d (.int .i64 0)), (.d (.int .i64 0)), .nils] [(0, 1, (.t 30)), (1, 1, (.t 32))], none⟩,
         ⟨some 5, .al [(.d (.int .i64 0)), (.d (.int .i64 0)), .nils] false, none⟩,
         ⟨none, .st (.t 5) (.t 33) 3, none⟩] [1, 2, 4, 5])
     (.seq (.seq (.reg [⟨some 34, .fld (.t 2) 2, none⟩,
           ⟨some 35, .ld (.t 34) none, none⟩,
           ⟨some 36, .len (.t 35), none⟩,
           ⟨some 37, .mv (.c (.d (.int .i64 0))), none⟩] [1, 4, 5, 35, 36, 37])
       (.block 0 (.loop c_typing_Subst_L0)))
      (.seq (.reg [⟨some 50, .ld (.t 5) (some 3), none⟩,
           ⟨none, .st (.t 4) (.t 50) 3, none⟩] [4])
       .ret)))))

def t_typing_Subst : List (List Nat × List Nat) := [([1, 2, 4], []), ([1, 2, 4, 22], []), ([4], []), ([1, 2, 4, 5], []), ([1, 4, 5, 35, 36, 37], []), ([1, 4, 5, 35, 36, 37, 38], []), ([1, 4, 5, 7, 35, 36, 37], []), ([1, 4, 5, 35, 36, 37], []), ([1, 4, 5, 35, 36, 37], []), ([4], [])]

noncomputable def x_typing_Subst : Cx := ⟨Try.prog, 14, Try.f14, 51, [], [9, 13, 11, 12, 14, 15, 16, 18, 19, 20, 24, 25, 5, 6, 7, 8], [.c 4 (some 3)]⟩
theorem g_typing_Subst : Good x_typing_Subst := ⟨Try.func14, by kernel_rfl⟩
theorem rs_typing_Subst : x_typing_Subst.rs = [.c 4 (some 3)] := rfl
theorem k_typing_Subst : compC Try.prog 51 [] [9, 13, 11, 12, 14, 15, 16, 18, 19, 20, 24, 25, 5, 6, 7, 8] (Try.f14.body.getD .skip) t_typing_Subst = some (c_typing_Subst, []) := by kernel_rfl
theorem b_typing_Subst : Try.f14.body = some (Try.f14.body.getD .skip) := by kernel_rfl
theorem i_typing_Subst {args : List AV} {σ : Heap} {K : AV → Heap → Prop} (hl : args.length ≤ 51) (h : Run x_typing_Subst K [.code c_typing_Subst] (argF args) E σ) : ACalls Try.prog 14 args σ K :=
  acalls_of (cx := x_typing_Subst) g_typing_Subst b_typing_Subst Try.ntmps14 hl (compC_rc x_typing_Subst _ _ _ _ k_typing_Subst) h

/-! ### amortcost/amortcostlaw06.vars -/
def c_law06_vars_L0 : C := (.seq (.reg [⟨some 29, .bin .lss (.t 28) (.t 27), none⟩] [1, 26, 27, 28, 29])
   (.seq (.cond (.t 29) .skip
     (.exit 0))
    (.seq (.block 1 (.seq (.reg [⟨some 30, .ix (.t 26) (.t 28) 3, none⟩,
           ⟨some 31, .ld (.t 30) (some 3), none⟩,
           ⟨some 6, .al [(.d (.int .i64 0)), (.d (.int .i64 0)), .nils] false, none⟩,
           ⟨none, .st (.t 6) (.t 31) 3, none⟩] [1, 6, 26, 27, 28])
       (.seq (.reg [⟨some 32, .ld (.t 6) (some 3), none⟩,
            ⟨some 33, .mv (.t 1), none⟩,
            ⟨some 34, .call 15 [(.t 32), (.t 33)], none⟩,
            ⟨some 35, .un .not (.t 34), none⟩] [1, 26, 27, 28, 35])
        (.cond (.t 35) (.seq (.reg [⟨some 4, .mv (.c (.d (.bool false))), none⟩] [4])
          .ret)
         .skip))))
     (.reg [⟨some 36, .bin .add (.t 28) (.c (.d (.int .i64 1))), none⟩,
         ⟨some 28, .mv (.t 36), none⟩] [1, 26, 27, 28]))))

def c_law06_vars : C := (.seq (.reg [⟨some 2, .box (.t 0) false, none⟩,
       ⟨some 4, .mv (.c (.d (.bool false))), none⟩] [1, 2])
   (.seq (.seq (.reg [⟨some 7, .fld (.t 2) 0, none⟩,
         ⟨some 8, .ld (.t 7) none, none⟩,
         ⟨some 9, .bin .eql (.t 8) (.c (.d (.int .i64 4))), none⟩] [1, 2, 9])
     (.cond (.t 9) (.seq (.reg [⟨some 10, .fld (.t 2) 1, none⟩,
           ⟨some 11, .ld (.t 10) none, none⟩,
           ⟨some 12, .bin .geq (.t 11) (.c (.d (.int .i64 0))), none⟩,
           ⟨some 13, .mv (.t 12), none⟩,
           ⟨some 14, .fld (.t 2) 1, some (13, true)⟩,
           ⟨some 15, .ld (.t 14) none, some (13, true)⟩,
           ⟨some 16, .mv (.t 1), some (13, true)⟩,
           ⟨some 17, .bin .lss (.t 15) (.t 16), some (13, true)⟩,
           ⟨some 18, .pick (.t 13) (.t 17) (.c (.d (.bool false))), none⟩,
           ⟨some 19, .mv (.t 18), none⟩,
           ⟨some 20, .fld (.t 2) 2, some (19, true)⟩,
           ⟨some 21, .ld (.t 20) none, some (19, true)⟩,
           ⟨some 22, .len (.t 21), some (19, true)⟩,
           ⟨some 23, .bin .eql (.t 22) (.c (.d (.int .i64 0))), some (19, true)⟩,
           ⟨some 24, .pick (.t 19) (.t 23) (.c (.d (.bool false))), none⟩,
           ⟨some 4, .mv (.t 24), none⟩] [4])
       .ret)
      .skip))
    (.seq (.seq (.reg [⟨some 25, .fld (.t 2) 2, none⟩,
          ⟨some 26, .ld (.t 25) none, none⟩,
          ⟨some 27, .len (.t 26), none⟩,
          ⟨some 28, .mv (.c (.d (.int .i64 0))), none⟩] [1, 26, 27, 28])
      (.block 0 (.loop c_law06_vars_L0)))
     (.seq (.reg [⟨some 4, .mv (.c (.d (.bool true))), none⟩] [4])
      .ret))))

def t_law06_vars : List (List Nat × List Nat) := [([1, 2], []), ([1, 2, 9], []), ([4], []), ([1, 26, 27, 28], []), ([1, 26, 27, 28, 29], []), ([1, 6, 26, 27, 28], []), ([1, 26, 27, 28, 35], []), ([4], []), ([1, 26, 27, 28], []), ([4], [])]

noncomputable def x_law06_vars : Cx := ⟨Try.prog, 15, Try.f15, 37, [], [9, 13, 11, 12, 14, 15, 16, 18, 19, 20, 24, 25, 5, 6, 7, 8], [.t 4]⟩
theorem g_law06_vars : Good x_law06_vars := ⟨Try.func15, by kernel_rfl⟩
theorem rs_law06_vars : x_law06_vars.rs = [.t 4] := rfl
theorem k_law06_vars : compC Try.prog 37 [] [9, 13, 11, 12, 14, 15, 16, 18, 19, 20, 24, 25, 5, 6, 7, 8] (Try.f15.body.getD .skip) t_law06_vars = some (c_law06_vars, []) := by kernel_rfl
theorem b_law06_vars : Try.f15.body = some (Try.f15.body.getD .skip) := by kernel_rfl
theorem i_law06_vars {args : List AV} {σ : Heap} {K : AV → Heap → Prop} (hl : args.length ≤ 37) (h : Run x_law06_vars K [.code c_law06_vars] (argF args) E σ) : ACalls Try.prog 15 args σ K :=
  acalls_of (cx := x_law06_vars) g_law06_vars b_law06_vars Try.ntmps15 hl (compC_rc x_law06_vars _ _ _ _ k_law06_vars) h

/-! ### amortcost/typing.Ground -/
def c_typing_Ground : C := (.seq (.reg [⟨some 1, .box (.t 0) false, none⟩,
       ⟨some 2, .mv (.c (.d (.bool false))), none⟩] [1])
   (.seq (.reg [⟨some 3, .fld (.t 1) 0, none⟩,
        ⟨some 4, .ld (.t 3) none, none⟩,
        ⟨some 5, .bin .neq (.t 4) (.c (.d (.int .i64 4))), none⟩,
        ⟨some 6, .mv (.t 5), none⟩,
        ⟨some 7, .fld (.t 1) 2, some (6, true)⟩,
        ⟨some 8, .ld (.t 7) none, some (6, true)⟩,
        ⟨some 9, .call 22 [(.t 8), (.c (.fn 23 [] []))], some (6, true)⟩,
        ⟨some 10, .un .not (.t 9), some (6, true)⟩,
        ⟨some 11, .pick (.t 6) (.t 10) (.c (.d (.bool false))), none⟩,
        ⟨some 2, .mv (.t 11), none⟩] [2])
    .ret))

def t_typing_Ground : List (List Nat × List Nat) := [([1], []), ([2], [])]

noncomputable def x_typing_Ground : Cx := ⟨Try.prog, 16, Try.f16, 12, [], [9, 13, 11, 12, 14, 15, 16, 18, 19, 20, 24, 25, 5, 6, 7, 8], [.t 2]⟩
theorem g_typing_Ground : Good x_typing_Ground := ⟨Try.func16, by kernel_rfl⟩
theorem rs_typing_Ground : x_typing_Ground.rs = [.t 2] := rfl
theorem k_typing_Ground : compC Try.prog 12 [] [9, 13, 11, 12, 14, 15, 16, 18, 19, 20, 24, 25, 5, 6, 7, 8] (Try.f16.body.getD .skip) t_typing_Ground = some (c_typing_Ground, []) := by kernel_rfl
theorem b_typing_Ground : Try.f16.body = some (Try.f16.body.getD .skip) := by kernel_rfl
theorem i_typing_Ground {args : List AV} {σ : Heap} {K : AV → Heap → Prop} (hl : args.length ≤ 12) (h : Run x_typing_Ground K [.code c_typing_Ground] (argF args) E σ) : ACalls Try.prog 16 args σ K :=
  acalls_of (cx := x_typing_Ground) g_typing_Ground b_typing_Ground Try.ntmps16 hl (compC_rc x_typing_Ground _ _ _ _ k_typing_Ground) h

/-! ### amortcost/amortcostkeep.typ -/
def c_keep_typ_L0 : C := (.seq (.seq (.reg [⟨some 15, .mv (.t 5), none⟩,
        ⟨some 16, .fld (.t 2) 2, none⟩,
        ⟨some 17, .ld (.t 16) none, none⟩,
        ⟨some 18, .len (.t 17), none⟩,
        ⟨some 19, .bin .lss (.t 15) (.t 18), none⟩] [1, 2, 5, 19])
    (.cond (.t 19) .skip
     (.exit 0)))
   (.seq (.block 1 (.seq (.reg [⟨some 22, .fld (.t 2) 2, none⟩,
          ⟨some 23, .ld (.t 22) none, none⟩,
          ⟨some 24, .mv (.t 5), none⟩,
          ⟨some 25, .ix (.t 23) (.t 24) 3, none⟩,
          ⟨some 26, .ld (.t 25) (some 3), none⟩,
          ⟨some 27, .mv (.t 1), none⟩,
          ⟨some 28, .call 17 [(.t 26), (.t 27)], none⟩,
          ⟨some 29, .un .not (.t 28), none⟩] [1, 2, 5, 29])
      (.cond (.t 29) (.seq (.reg [⟨some 4, .mv (.c (.d (.bool false))), none⟩] [4])
        .ret)
       .skip)))
    (.reg [⟨some 20, .mv (.t 5), none⟩,
        ⟨some 21, .bin .add (.t 20) (.c (.d (.int .i64 1))), none⟩,
        ⟨some 5, .mv (.t 21), none⟩] [1, 2, 5])))

def c_keep_typ : C := (.seq (.reg [⟨some 2, .box (.t 0) false, none⟩,
       ⟨some 4, .mv (.c (.d (.bool false))), none⟩] [1, 2])
   (.seq (.reg [⟨some 6, .mv (.t 1), none⟩,
        ⟨some 7, .nck (.t 6), none⟩,
        ⟨some 8, .ld (.t 7) none, none⟩,
        ⟨some 9, .bin .sub (.t 8) (.c (.d (.int .i64 1))), none⟩,
        ⟨some 10, .nck (.t 6), none⟩,
        ⟨none, .st (.t 10) (.t 9) 1, none⟩] [1, 2])
    (.seq (.seq (.reg [⟨some 11, .mv (.t 1), none⟩,
          ⟨some 12, .nck (.t 11), none⟩,
          ⟨some 13, .ld (.t 12) none, none⟩,
          ⟨some 14, .bin .lss (.t 13) (.c (.d (.int .i64 0))), none⟩] [1, 2, 14])
      (.cond (.t 14) (.seq (.reg [⟨some 4, .mv (.c (.d (.bool false))), none⟩] [4])
        .ret)
       .skip))
     (.seq (.seq (.reg [⟨some 5, .mv (.c (.d (.int .i64 0))), none⟩] [1, 2, 5])
       (.block 0 (.loop c_keep_typ_L0)))
      (.seq (.reg [⟨some 4, .mv (.c (.d (.bool true))), none⟩] [4])
       .ret)))))

def t_keep_typ : List (List Nat × List Nat) := [([1, 2], []), ([1, 2], []), ([1, 2, 14], []), ([4], []), ([1, 2, 5], []), ([1, 2, 5, 19], []), ([1, 2, 5, 29], []), ([4], []), ([1, 2, 5], []), ([4], [])]

noncomputable def x_keep_typ : Cx := ⟨Try.prog, 17, Try.f17, 30, [], [9, 13, 11, 12, 14, 15, 16, 18, 19, 20, 24, 25, 5, 6, 7, 8], [.t 4]⟩
theorem g_keep_typ : Good x_keep_typ := ⟨Try.func17, by kernel_rfl⟩
theorem rs_keep_typ : x_keep_typ.rs = [.t 4] := rfl
theorem k_keep_typ : compC Try.prog 30 [] [9, 13, 11, 12, 14, 15, 16, 18, 19, 20, 24, 25, 5, 6, 7, 8] (Try.f17.body.getD .skip) t_keep_typ = some (c_keep_typ, []) := by kernel_rfl
theorem b_keep_typ : Try.f17.body = some (Try.f17.body.getD .skip) := by kernel_rfl
theorem i_keep_typ {args : List AV} {σ : Heap} {K : AV → Heap → Prop} (hl : args.length ≤ 30) (h : Run x_keep_typ K [.code c_keep_typ] (argF args) E σ) : ACalls Try.prog 17 args σ K :=
  acalls_of (cx := x_keep_typ) g_keep_typ b_keep_typ Try.ntmps17 hl (compC_rc x_keep_typ _ _ _ _ k_keep_typ) h

/-! ### amortcost/typing.Size -/
def c_typing_Size_L0 : C := (.seq (.reg [⟨some 10, .bin .lss (.t 9) (.t 8), none⟩] [3, 7, 8, 9, 10])
   (.seq (.cond (.t 10) .skip
     (.exit 0))
    (.seq (.block 1 (.seq (.reg [⟨some 11, .ix (.t 7) (.t 9) 3, none⟩,
           ⟨some 12, .ld (.t 11) (some 3), none⟩,
           ⟨some 5, .al [(.d (.int .i64 0)), (.d (.int .i64 0)), .nils] false, none⟩,
           ⟨none, .st (.t 5) (.t 12) 3, none⟩] [3, 5, 7, 8, 9])
       (.reg [⟨some 13, .mv (.t 3), none⟩,
           ⟨some 14, .ld (.t 5) (some 3), none⟩,
           ⟨some 15, .call 18 [(.t 14)], none⟩,
           ⟨some 16, .bin .add (.t 13) (.t 15), none⟩,
           ⟨some 3, .mv (.t 16), none⟩] [3, 7, 8, 9])))
     (.reg [⟨some 17, .bin .add (.t 9) (.c (.d (.int .i64 1))), none⟩,
         ⟨some 9, .mv (.t 17), none⟩] [3, 7, 8, 9]))))

def c_typing_Size : C := (.seq (.reg [⟨some 1, .box (.t 0) false, none⟩,
       ⟨some 2, .mv (.c (.d (.int .i64 0))), none⟩] [1])
   (.seq (.reg [⟨some 3, .mv (.c (.d (.int .i64 1))), none⟩] [1, 3])
    (.seq (.seq (.reg [⟨some 6, .fld (.t 1) 2, none⟩,
          ⟨some 7, .ld (.t 6) none, none⟩,
          ⟨some 8, .len (.t 7), none⟩,
          ⟨some 9, .mv (.c (.d (.int .i64 0))), none⟩] [3, 7, 8, 9])
      (.block 0 (.loop c_typing_Size_L0)))
     (.seq (.reg [⟨some 18, .mv (.t 3), none⟩,
          ⟨some 2, .mv (.t 18), none⟩] [2])
      .ret))))

def t_typing_Size : List (List Nat × List Nat) := [([1], []), ([1, 3], []), ([3, 7, 8, 9], []), ([3, 7, 8, 9, 10], []), ([3, 5, 7, 8, 9], []), ([3, 7, 8, 9], []), ([3, 7, 8, 9], []), ([2], [])]

noncomputable def x_typing_Size : Cx := ⟨Try.prog, 18, Try.f18, 19, [], [9, 13, 11, 12, 14, 15, 16, 18, 19, 20, 24, 25, 5, 6, 7, 8], [.t 2]⟩
theorem g_typing_Size : Good x_typing_Size := ⟨Try.func18, by kernel_rfl⟩
theorem rs_typing_Size : x_typing_Size.rs = [.t 2] := rfl
theorem k_typing_Size : compC Try.prog 19 [] [9, 13, 11, 12, 14, 15, 16, 18, 19, 20, 24, 25, 5, 6, 7, 8] (Try.f18.body.getD .skip) t_typing_Size = some (c_typing_Size, []) := by kernel_rfl
theorem b_typing_Size : Try.f18.body = some (Try.f18.body.getD .skip) := by kernel_rfl
theorem i_typing_Size {args : List AV} {σ : Heap} {K : AV → Heap → Prop} (hl : args.length ≤ 19) (h : Run x_typing_Size K [.code c_typing_Size] (argF args) E σ) : ACalls Try.prog 18 args σ K :=
  acalls_of (cx := x_typing_Size) g_typing_Size b_typing_Size Try.ntmps18 hl (compC_rc x_typing_Size _ _ _ _ k_typing_Size) h

/-! ### amortcost/typing.substSize -/
def c_typing_substSize_L0 : C := (.seq (.reg [⟨some 32, .bin .lss (.t 31) (.t 30), none⟩] [1, 5, 29, 30, 31, 32])
   (.seq (.cond (.t 32) .skip
     (.exit 0))
    (.seq (.block 1 (.seq (.reg [⟨some 33, .ix (.t 29) (.t 31) 3, none⟩,
           ⟨some 34, .ld (.t 33) (some 3), none⟩,
           ⟨some 7, .al [(.d (.int .i64 0)), (.d (.int .i64 0)), .nils] false, none⟩,
           ⟨none, .st (.t 7) (.t 34) 3, none⟩] [1, 5, 7, 29, 30, 31])
       (.seq (.reg [⟨some 35, .mv (.t 5), none⟩,
            ⟨some 36, .ld (.t 7) (some 3), none⟩,
            ⟨some 37, .mv (.t 1), none⟩,
            ⟨some 38, .call 19 [(.t 36), (.t 37)], none⟩,
            ⟨some 39, .bin .add (.t 35) (.t 38), none⟩,
            ⟨some 5, .mv (.t 39), none⟩] [1, 5, 29, 30, 31])
        (.seq (.reg [⟨some 40, .mv (.t 5), none⟩,
             ⟨some 41, .bin .gtr (.t 40) (.c (.d (.int .i64 200))), none⟩] [1, 5, 29, 30, 31, 41])
         (.cond (.t 41) (.exit 0)
          .skip)))))
     (.reg [⟨some 42, .bin .add (.t 31) (.c (.d (.int .i64 1))), none⟩,
         ⟨some 31, .mv (.t 42), none⟩] [1, 5, 29, 30, 31]))))

def c_typing_substSize : C := (.seq (.reg [⟨some 2, .box (.t 0) false, none⟩,
       ⟨some 4, .mv (.c (.d (.int .i64 0))), none⟩] [1, 2])
   (.seq (.seq (.reg [⟨some 8, .fld (.t 2) 0, none⟩,
         ⟨some 9, .ld (.t 8) none, none⟩,
         ⟨some 10, .bin .eql (.t 9) (.c (.d (.int .i64 4))), none⟩,
         ⟨some 11, .mv (.t 10), none⟩,
         ⟨some 12, .fld (.t 2) 1, some (11, true)⟩,
         ⟨some 13, .ld (.t 12) none, some (11, true)⟩,
         ⟨some 14, .bin .geq (.t 13) (.c (.d (.int .i64 0))), some (11, true)⟩,
         ⟨some 15, .pick (.t 11) (.t 14) (.c (.d (.bool false))), none⟩,
         ⟨some 16, .mv (.t 15), none⟩,
         ⟨some 17, .fld (.t 2) 1, some (16, true)⟩,
         ⟨some 18, .ld (.t 17) none, some (16, true)⟩,
         ⟨some 19, .mv (.t 1), some (16, true)⟩,
         ⟨some 20, .len (.t 19), some (16, true)⟩,
         ⟨some 21, .bin .lss (.t 18) (.t 20), some (16, true)⟩,
         ⟨some 22, .pick (.t 16) (.t 21) (.c (.d (.bool false))), none⟩] [1, 2, 22])
     (.cond (.t 22) (.seq (.reg [⟨some 23, .mv (.t 1), none⟩,
           ⟨some 24, .fld (.t 2) 1, none⟩,
           ⟨some 25, .ld (.t 24) none, none⟩,
           ⟨some 26, .ix (.t 23) (.t 25) 1, none⟩,
           ⟨some 27, .ld (.t 26) none, none⟩,
           ⟨some 4, .mv (.t 27), none⟩] [4])
       .ret)
      .skip))
    (.seq (.reg [⟨some 5, .mv (.c (.d (.int .i64 1))), none⟩] [1, 2, 5])
     (.seq (.seq (.reg [⟨some 28, .fld (.t 2) 2, none⟩,
           ⟨some 29, .ld (.t 28) none, none⟩,
           ⟨some 30, .len (.t 29), none⟩,
           ⟨some 31, .mv (.c (.d (.int .i64 0))), none⟩] [1, 5, 29, 30, 31])
       (.block 0 (.loop c_typing_substSize_L0)))
      (.seq (.reg [⟨some 43, .mv (.t 5), none⟩,
           ⟨some 4, .mv (.t 43), none⟩] [4])
       .ret)))))

def t_typing_substSize : List (List Nat × List Nat) := [([1, 2], []), ([1, 2, 22], []), ([4], []), ([1, 2, 5], []), ([1, 5, 29, 30, 31], []), ([1, 5, 29, 30, 31, 32], []), ([1, 5, 7, 29, 30, 31], []), ([1, 5, 29, 30, 31], []), ([1, 5, 29, 30, 31, 41], []), ([1, 5, 29, 30, 31], []), ([4], [])]

noncomputable def x_typing_substSize : Cx := ⟨Try.prog, 19, Try.f19, 44, [], [9, 13, 11, 12, 14, 15, 16, 18, 19, 20, 24, 25, 5, 6, 7, 8], [.t 4]⟩
theorem g_typing_substSize : Good x_typing_substSize := ⟨Try.func19, by kernel_rfl⟩
theorem rs_typing_substSize : x_typing_substSize.rs = [.t 4] := rfl
theorem k_typing_substSize : compC Try.prog 44 [] [9, 13, 11, 12, 14, 15, 16, 18, 19, 20, 24, 25, 5, 6, 7, 8] (Try.f19.body.getD .skip) t_typing_substSize = some (c_typing_substSize, []) := by kernel_rfl
theorem b_typing_substSize : Try.f19.body = some (Try.f19.body.getD .skip) := by kernel_rfl
theorem i_typing_substSize {args : List AV} {σ : Heap} {K : AV → Heap → Prop} (hl : args.length ≤ 44) (h : Run x_typing_substSize K [.code c_typing_substSize] (argF args) E σ) : ACalls Try.prog 19 args σ K :=
  acalls_of (cx := x_typing_substSize) g_typing_substSize b_typing_substSize Try.ntmps19 hl (compC_rc x_typing_substSize _ _ _ _ k_typing_substSize) h

/-! ### amortcost/amortcostref6.Subst -/
def c_r6_Subst_L0 : C := (.seq (.seq (.reg [⟨some 33, .mv (.t 6), none⟩,
        ⟨some 34, .fld (.t 2) 2, none⟩,
        ⟨some 35, .ld (.t 34) none, none⟩,
        ⟨some 36, .len (.t 35), none⟩,
        ⟨some 37, .bin .lss (.t 33) (.t 36), none⟩] [1, 2, 4, 5, 6, 37])
    (.cond (.t 37) .skip
     (.exit 0)))
   (.seq (.block 1 (.reg [⟨some 40, .fld (.t 5) 2, none⟩,
         ⟨some 41, .ld (.t 40) none, none⟩,
         ⟨some 42, .fld (.t 2) 2, none⟩,
         ⟨some 43, .ld (.t 42) none, none⟩,
         ⟨some 44, .mv (.t 6), none⟩,
         ⟨some 45, .ix (.t 43) (.t 44) 3, none⟩,
         ⟨some 46, .ld (.t 45) (some 3), none⟩,
         ⟨some 47, .mv (.t 1), none⟩,
         ⟨some 48, .pcall 20 [(.t 46), (.t 47)], none⟩,
         ⟨some 49, .bsl 3 1 [(.d (.int .i64 0)), (.d (.int .i64 0)), .nils] [(0, 3, (.t 48))], none⟩,
         ⟨some 50, .app 25 3 40 (.t 41) (.t 49), none⟩,
         ⟨some 51, .fld (.t 5) 2, none⟩,
         ⟨none, .st (.t 51) (.t 50) 1, none⟩] [1, 2, 4, 5, 6]))
    (.reg [⟨some 38, .mv (.t 6), none⟩,
        ⟨some 39, .bin .add (.t 38) (.c (.d (.int .i64 1))), none⟩,
        ⟨some 6, .mv (.t 39), none⟩] [1, 2, 4, 5, 6])))

def c_r6_Subst : C := (.seq (.reg [⟨some 2, .box (.t 0) false, none⟩,
       ⟨some 4, .al [(.d (.int .i64 0)), (.d (.int .i64 0)), .nils] false, none⟩] [1, 2, 4])
   (.seq (.seq (.reg [⟨some 7, .fld (.t 2) 0, none⟩,
         ⟨some 8, .ld (.t 7) none, none⟩,
         ⟨some 9, .bin .eql (.t 8) (.c (.d (.int .i64 4))), none⟩,
         ⟨some 10, .mv (.t 9), none⟩,
         ⟨some 11, .fld (.t 2) 1, some (10, true)⟩,
         ⟨some 12, .ld (.t 11) none, some (10, true)⟩,
         ⟨some 13, .bin .geq (.t 12) (.c (.d (.int .i64 0))), some (10, true)⟩,
         ⟨some 14, .pick (.t 10) (.t 13) (.c (.d (.bool false))), none⟩,
         ⟨some 15, .mv (.t 14), none⟩,
         ⟨some 16, .fld (.t 2) 1, some (15, true)⟩,
         ⟨some 17, .ld (.t 16) none, some (15, true)⟩,
         ⟨some 18, .mv (.t 1), some (15, true)⟩,
         ⟨some 19, .len (.t 18), some (15, true)⟩,
         ⟨some 20, .bin .lss (.t 17) (.t 19), some (15, true)⟩,
         ⟨some 21, .pick (.t 15) (.t 20) (.c (.d (.bool false))), none⟩] [1, 2, 4, 21])
     (.cond (.t 21) (.seq (.reg [⟨some 22, .mv (.t 1), none⟩,
           ⟨some 23, .fld (.t 2) 1, none⟩,
           ⟨some 24, .ld (.t 23) none, none⟩,
           ⟨some 25, .ix (.t 22) (.t 24) 3, none⟩,
           ⟨some 26, .ld (.t 25) (some 3), none⟩,
           ⟨some 27, .call 24 [(.t 26)], none⟩,
           ⟨none, .st (.t 4) (.t 27) 3, none⟩] [4])
       .ret)
      .skip))
    (.seq (.reg [⟨some 28, .fld (.t 2) 0, none⟩,
         ⟨some 29, .ld (.t 28) none, none⟩,
         ⟨some 30, .fld (.t 2) 1, none⟩,
         ⟨some 31, .ld (.t 30) none, none⟩,
         ⟨some 32, .bld [(.d (.int .i64 0)), (.d (.int .i64 0)), .nils] [(0, 1, (.t 29)), (1, 1, (.t 31))], none⟩,
         ⟨some 5, .al [(.d (.int .i64 0)), (.d (.int .i64 0)), .nils] false, none⟩,
         ⟨none, .st (.t 5) (.t 32) 3, none⟩] [1, 2, 4, 5])
     (.seq (.seq (.reg [⟨some 6, .mv (.c (.d (.int .i64 0))), none⟩] [1, 2, 4, 5, 6])
       (.block 0 (.loop c_r6_Subst_L0)))
      (.seq (.reg [⟨some 52, .ld (.t 5) (some 3), none⟩,
           ⟨none, .st (.t 4) (.t 52) 3, none⟩] [4])
       .ret)))))

def t_r6_Subst : List (List Nat × List Nat) := [([1, 2, 4], []), ([1, 2, 4, 21], []), ([4], []), ([1, 2, 4, 5], []), ([1, 2, 4, 5, 6], []), ([1, 2, 4, 5, 6, 37], []), ([1, 2, 4, 5, 6], []), ([1, 2, 4, 5, 6], []), ([4], [])]

noncomputable def x_r6_Subst : Cx := ⟨Try.prog, 20, Try.f20, 53, [], [9, 13, 11, 12, 14, 15, 16, 18, 19, 20, 24, 25, 5, 6, 7, 8], [.c 4 (some 3)]⟩
theorem g_r6_Subst : Good x_r6_Subst := ⟨Try.func20, by kernel_rfl⟩
theorem rs_r6_Subst : x_r6_Subst.rs = [.c 4 (some 3)] := rfl
theorem k_r6_Subst : compC Try.prog 53 [] [9, 13, 11, 12, 14, 15, 16, 18, 19, 20, 24, 25, 5, 6, 7, 8] (Try.f20.body.getD .skip) t_r6_Subst = some (c_r6_Subst, []) := by kernel_rfl
theorem b_r6_Subst : Try.f20.body = some (Try.f20.body.getD .skip) := by kernel_rfl
theorem i_r6_Subst {args : List AV} {σ : Heap} {K : AV → Heap → Prop} (hl : args.length ≤ 53) (h : Run x_r6_Subst K [.code c_r6_Subst] (argF args) E σ) : ACalls Try.prog 20 args σ K :=
  acalls_of (cx := x_r6_Subst) g_r6_Subst b_r6_Subst Try.ntmps20 hl (compC_rc x_r6_Subst _ _ _ _ k_r6_Subst) h

/-! ### (*amortcost/typing.matcher).match -/
def c_typing_matcher_match : C := (.seq (.reg [⟨some 4, .box (.t 1) false, none⟩,
       ⟨some 5, .box (.t 2) false, none⟩,
       ⟨some 6, .mv (.c (.d (.bool false))), none⟩] [0, 4, 5])
   (.seq (.seq (.reg [⟨some 7, .fld (.t 4) 0, none⟩,
         ⟨some 8, .ld (.t 7) none, none⟩,
         ⟨some 9, .bin .eql (.t 8) (.c (.d (.int .i64 4))), none⟩] [0, 4, 5, 9])
     (.cond (.t 9) (.seq (.seq (.reg [⟨some 10, .fld (.t 4) 1, none⟩,
            ⟨some 11, .ld (.t 10) none, none⟩,
            ⟨some 12, .bin .lss (.t 11) (.c (.d (.int .i64 0))), none⟩,
            ⟨some 13, .mv (.t 12), none⟩,
            ⟨some 14, .fld (.t 4) 1, some (13, false)⟩,
            ⟨some 15, .ld (.t 14) none, some (13, false)⟩,
            ⟨some 16, .bin .gtr (.t 15) (.c (.d (.int .i64 100))), some (13, false)⟩,
            ⟨some 17, .pick (.t 13) (.c (.d (.bool true))) (.t 16), none⟩] [0, 4, 5, 17])
        (.cond (.t 17) (.seq (.reg [⟨some 6, .mv (.c (.d (.bool false))), none⟩] [6])
          .ret)
         .skip))
       (.seq (.seq (.reg [⟨some 18, .mv (.t 0), none⟩,
             ⟨some 19, .nck (.t 18), none⟩,
             ⟨some 20, .fld (.t 19) 0, none⟩,
             ⟨some 21, .ld (.t 20) none, none⟩,
             ⟨some 22, .fld (.t 4) 1, none⟩,
             ⟨some 23, .ld (.t 22) none, none⟩,
             ⟨some 24, .ix (.t 21) (.t 23) 1, none⟩,
             ⟨some 25, .ld (.t 24) none, none⟩] [0, 4, 5, 25])
         (.cond (.t 25) (.seq (.reg [⟨some 26, .mv (.t 0), none⟩,
               ⟨some 27, .nck (.t 26), none⟩,
               ⟨some 28, .fld (.t 27) 1, none⟩,
               ⟨some 29, .ld (.t 28) none, none⟩,
               ⟨some 30, .fld (.t 4) 1, none⟩,
               ⟨some 31, .ld (.t 30) none, none⟩,
               ⟨some 32, .ix (.t 29) (.t 31) 3, none⟩,
               ⟨some 33, .ld (.t 32) (some 3), none⟩,
               ⟨some 34, .ld (.t 5) (some 3), none⟩,
               ⟨some 35, .pcall 25 [(.t 33), (.t 34)], none⟩,
               ⟨some 6, .mv (.t 35), none⟩] [6])
           .ret)
          .skip))
        (.seq (.regT (.one ⟨some 36, .mv (.t 0), none⟩
   (.one ⟨some 37, .nck (.t 36), none⟩
   (.one ⟨some 38, .fld (.t 37) 0, none⟩
   (.one ⟨some 39, .ld (.t 38) none, none⟩
   (.one ⟨some 40, .fld (.t 4) 1, none⟩
   (.one ⟨some 41, .ld (.t 40) none, none⟩
   (.one ⟨some 42, .mv (.t 0), none⟩
   (.one ⟨some 43, .nck (.t 42), none⟩
   (.one ⟨some 44, .fld (.t 43) 1, none⟩
   (.one ⟨some 45, .ld (.t 44) none, none⟩
   (.one ⟨some 46, .fld (.t 4) 1, none⟩
   (.one ⟨some 49, .ix (.t 39) (.t 41) 1, none⟩
   (.alt ⟨some 47, .ld (.t 46) none, none⟩
   (.alt ⟨some 48, .ld (.t 5) (some 3), none⟩
   (.one ⟨none, .st (.t 49) (.c (.d (.bool true))) 1, none⟩
   (.one ⟨some 50, .ix (.t 45) (.t 47) 3, none⟩
   (.one ⟨none, .st (.t 50) (.t 48) 3, none⟩
   .done)))
   (.alt ⟨none, .st (.t 49) (.c (.d (.bool true))) 1, none⟩
   (.one ⟨some 48, .ld (.t 5) (some 3), none⟩
   (.one ⟨some 50, .ix (.t 45) (.t 47) 3, none⟩
   (.one ⟨none, .st (.t 50) (.t 48) 3, none⟩
   .done)))
   .done))
   (.alt ⟨some 48, .ld (.t 5) (some 3), none⟩
   (.alt ⟨some 47, .ld (.t 46) none, none⟩
   (.one ⟨none, .st (.t 49) (.c (.d (.bool true))) 1, none⟩
   (.one ⟨some 50, .ix (.t 45) (.t 47) 3, none⟩
   (.one ⟨none, .st (.t 50) (.t 48) 3, none⟩
   .done)))
   (.alt ⟨none, .st (.t 49) (.c (.d (.bool true))) 1, none⟩
   (.one ⟨some 47, .ld (.t 46) none, none⟩
   (.one ⟨some 50, .ix (.t 45) (.t 47) 3, none⟩
   (.one ⟨none, .st (.t 50) (.t 48) 3, none⟩
   .done)))
   .done))
   (.alt ⟨none, .st (.t 49) (.c (.d (.bool true))) 1, none⟩
   (.one ⟨some 47, .ld (.t 46) none, none⟩
   (.one ⟨some 48, .ld (.t 5) (some 3), none⟩
   (.one ⟨some 50, .ix (.t 45) (.t 47) 3, none⟩
   (.one ⟨none, .st (.t 50) (.t 48) 3, none⟩
   .done))))
   .done))))))))))))))) [0, 4])
         (.seq (.reg [⟨some 51, .mv (.t 0), none⟩,
              ⟨some 52, .mv (.t 0), none⟩,
              ⟨some 53, .nck (.t 52), none⟩,
              ⟨some 54, .fld (.t 53) 2, none⟩,
              ⟨some 55, .ld (.t 54) none, none⟩,
              ⟨some 56, .fld (.t 4) 1, none⟩,
              ⟨some 57, .ld (.t 56) none, none⟩,
              ⟨some 58, .bin .add (.t 57) (.c (.d (.int .i64 1))), none⟩,
              ⟨some 59, .mm true (.t 55) (.t 58), none⟩,
              ⟨some 60, .nck (.t 51), none⟩,
              ⟨some 61, .fld (.t 60) 2, none⟩,
              ⟨none, .st (.t 61) (.t 59) 1, none⟩] [])
          (.seq (.reg [⟨some 6, .mv (.c (.d (.bool true))), none⟩] [6])
           .ret)))))
      .skip))
    (.seq (.reg [⟨some 62, .fld (.t 4) 0, none⟩,
         ⟨some 63, .ld (.t 62) none, none⟩,
         ⟨some 64, .fld (.t 5) 0, none⟩,
         ⟨some 65, .ld (.t 64) none, none⟩,
         ⟨some 66, .bin .eql (.t 63) (.t 65), none⟩,
         ⟨some 67, .mv (.t 66), none⟩,
         ⟨some 68, .fld (.t 4) 1, some (67, true)⟩,
         ⟨some 69, .ld (.t 68) none, some (67, true)⟩,
         ⟨some 70, .fld (.t 5) 1, some (67, true)⟩,
         ⟨some 71, .ld (.t 70) none, some (67, true)⟩,
         ⟨some 72, .bin .eql (.t 69) (.t 71), some (67, true)⟩,
         ⟨some 73, .pick (.t 67) (.t 72) (.c (.d (.bool false))), none⟩,
         ⟨some 74, .mv (.t 73), none⟩,
         ⟨some 75, .fld (.t 4) 2, some (74, true)⟩,
         ⟨some 76, .ld (.t 75) none, some (74, true)⟩,
         ⟨some 77, .fld (.t 5) 2, some (74, true)⟩,
         ⟨some 78, .ld (.t 77) none, some (74, true)⟩,
         ⟨some 79, .mv (.t 0), some (74, true)⟩,
         ⟨some 80, .mkf 21 [(.t 79)] [], some (74, true)⟩,
         ⟨some 81, .call 26 [(.t 76), (.t 78), (.t 80)], some (74, true)⟩,
         ⟨some 82, .pick (.t 74) (.t 81) (.c (.d (.bool false))), none⟩,
         ⟨some 6, .mv (.t 82), none⟩] [6])
     .ret)))

def t_typing_matcher_match : List (List Nat × List Nat) := [([0, 4, 5], []), ([0, 4, 5, 9], []), ([0, 4, 5, 17], []), ([6], []), ([0, 4, 5, 25], []), ([6], []), ([0, 4], []), ([], []), ([6], []), ([6], [])]

noncomputable def x_typing_matcher_match : Cx := ⟨Try.prog, 21, Try.f21, 83, [], [9, 13, 11, 12, 14, 15, 16, 18, 19, 20, 24, 25, 5, 6, 7, 8], [.t 6]⟩
theorem g_typing_matcher_match : Good x_typing_matcher_match := ⟨Try.func21, by kernel_rfl⟩
theorem rs_typing_matcher_match : x_typing_matcher_match.rs = [.t 6] := rfl
theorem k_typing_matcher_match : compC Try.prog 83 [] [9, 13, 11, 12, 14, 15, 16, 18, 19, 20, 24, 25, 5, 6, 7, 8] (Try.f21.body.getD .skip) t_typing_matcher_match = some (c_typing_matcher_match, []) := by kernel_rfl
theorem b_typing_matcher_match : Try.f21.body = some (Try.f21.body.getD .skip) := by kernel_rfl
theorem i_typing_matcher_match {args : List AV} {σ : Heap} {K : AV → Heap → Prop} (hl : args.length ≤ 83) (h : Run x_typing_matcher_match K [.code c_typing_matcher_match] (argF args) E σ) : ACalls Try.prog 21 args σ K :=
  acalls_of (cx := x_typing_matcher_match) g_typing_matcher_match b_typing_matcher_match Try.ntmps21 hl (compC_rc x_typing_matcher_match _ _ _ _ k_typing_matcher_match) h

/-! ### slices.ContainsFunc(()amortcost/api.Type,amortcost/api.Type) -/
def c_slices_ContainsFunc_api_Type : C := (.seq (.reg [⟨some 4, .mv (.c (.d (.bool false))), none⟩] [0, 1])
   (.seq (.reg [⟨some 5, .mv (.t 0), none⟩,
        ⟨some 6, .mv (.t 1), none⟩,
        ⟨some 7, .call 27 [(.t 5), (.t 6)], none⟩,
        ⟨some 8, .bin .geq (.t 7) (.c (.d (.int .i64 0))), none⟩,
        ⟨some 4, .mv (.t 8), none⟩] [4])
    .ret))

def t_slices_ContainsFunc_api_Type : List (List Nat × List Nat) := [([0, 1], []), ([4], [])]

noncomputable def x_slices_ContainsFunc_api_Type : Cx := ⟨Try.prog, 22, Try.f22, 9, [], [9, 13, 11, 12, 14, 15, 16, 18, 19, 20, 24, 25, 5, 6, 7, 8], [.t 4]⟩
theorem g_slices_ContainsFunc_api_Type : Good x_slices_ContainsFunc_api_Type := ⟨Try.func22, by kernel_rfl⟩
theorem rs_slices_ContainsFunc_api_Type : x_slices_ContainsFunc_api_Type.rs = [.t 4] := rfl
theorem k_slices_ContainsFunc_api_Type : compC Try.prog 9 [] [9, 13, 11, 12, 14, 15, 16, 18, 19, 20, 24, 25, 5, 6, 7, 8] (Try.f22.body.getD .skip) t_slices_ContainsFunc_api_Type = some (c_slices_ContainsFunc_api_Type, []) := by kernel_rfl
theorem b_slices_ContainsFunc_api_Type : Try.f22.body = some (Try.f22.body.getD .skip) := by kernel_rfl
theorem i_slices_ContainsFunc_api_Type {args : List AV} {σ : Heap} {K : AV → Heap → Prop} (hl : args.length ≤ 9) (h : Run x_slices_ContainsFunc_api_Type K [.code c_slices_ContainsFunc_api_Type] (argF args) E σ) : ACalls Try.prog 22 args σ K :=
  acalls_of (cx := x_slices_ContainsFunc_api_Type) g_slices_ContainsFunc_api_Type b_slices_ContainsFunc_api_Type Try.ntmps22 hl (compC_rc x_slices_ContainsFunc_api_Type _ _ _ _ k_slices_ContainsFunc_api_Type) h

/-! ### amortcost/typing.Ground$1 -/
def c_typing_Ground_1 : C := (.seq (.reg [⟨some 1, .box (.t 0) false, none⟩,
       ⟨some 2, .mv (.c (.d (.bool false))), none⟩] [1])
   (.seq (.reg [⟨some 3, .ld (.t 1) (some 3), none⟩,
        ⟨some 4, .call 16 [(.t 3)], none⟩,
        ⟨some 5, .un .not (.t 4), none⟩,
        ⟨some 2, .mv (.t 5), none⟩] [2])
    .ret))

def t_typing_Ground_1 : List (List Nat × List Nat) := [([1], []), ([2], [])]

noncomputable def x_typing_Ground_1 : Cx := ⟨Try.prog, 23, Try.f23, 6, [], [9, 13, 11, 12, 14, 15, 16, 18, 19, 20, 24, 25, 5, 6, 7, 8], [.t 2]⟩
theorem g_typing_Ground_1 : Good x_typing_Ground_1 := ⟨Try.func23, by kernel_rfl⟩
theorem rs_typing_Ground_1 : x_typing_Ground_1.rs = [.t 2] := rfl
theorem k_typing_Ground_1 : compC Try.prog 6 [] [9, 13, 11, 12, 14, 15, 16, 18, 19, 20, 24, 25, 5, 6, 7, 8] (Try.f23.body.getD .skip) t_typing_Ground_1 = some (c_typing_Ground_1, []) := by kernel_rfl
theorem b_typing_Ground_1 : Try.f23.body = some (Try.f23.body.getD .skip) := by kernel_rfl
theorem i_typing_Ground_1 {args : List AV} {σ : Heap} {K : AV → Heap → Prop} (hl : args.length ≤ 6) (h : Run x_typing_Ground_1 K [.code c_typing_Ground_1] (argF args) E σ) : ACalls Try.prog 23 args σ K :=
  acalls_of (cx := x_typing_Ground_1) g_typing_Ground_1 b_typing_Ground_1 Try.ntmps23 hl (compC_rc x_typing_Ground_1 _ _ _ _ k_typing_Ground_1) h

/-! ### amortcost/amortcostref6.copied -/
def c_r6_copied_L0 : C := (.seq (.seq (.reg [⟨some 10, .mv (.t 4), none⟩,
        ⟨some 11, .fld (.t 1) 2, none⟩,
        ⟨some 12, .ld (.t 11) none, none⟩,
        ⟨some 13, .len (.t 12), none⟩,
        ⟨some 14, .bin .lss (.t 10) (.t 13), none⟩] [1, 2, 3, 4, 14])
    (.cond (.t 14) .skip
     (.exit 0)))
   (.seq (.block 1 (.reg [⟨some 17, .fld (.t 3) 2, none⟩,
         ⟨some 18, .ld (.t 17) none, none⟩,
         ⟨some 19, .fld (.t 1) 2, none⟩,
         ⟨some 20, .ld (.t 19) none, none⟩,
         ⟨some 21, .mv (.t 4), none⟩,
         ⟨some 22, .ix (.t 20) (.t 21) 3, none⟩,
         ⟨some 23, .ld (.t 22) (some 3), none⟩,
         ⟨some 24, .pcall 24 [(.t 23)], none⟩,
         ⟨some 25, .bsl 3 1 [(.d (.int .i64 0)), (.d (.int .i64 0)), .nils] [(0, 3, (.t 24))], none⟩,
         ⟨some 26, .app 25 3 40 (.t 18) (.t 25), none⟩,
         ⟨some 27, .fld (.t 3) 2, none⟩,
         ⟨none, .st (.t 27) (.t 26) 1, none⟩] [1, 2, 3, 4]))
    (.reg [⟨some 15, .mv (.t 4), none⟩,
        ⟨some 16, .bin .add (.t 15) (.c (.d (.int .i64 1))), none⟩,
        ⟨some 4, .mv (.t 16), none⟩] [1, 2, 3, 4])))

def c_r6_copied : C := (.seq (.reg [⟨some 1, .box (.t 0) false, none⟩,
       ⟨some 2, .al [(.d (.int .i64 0)), (.d (.int .i64 0)), .nils] false, none⟩] [1, 2])
   (.seq (.reg [⟨some 5, .fld (.t 1) 0, none⟩,
        ⟨some 6, .ld (.t 5) none, none⟩,
        ⟨some 7, .fld (.t 1) 1, none⟩,
        ⟨some 8, .ld (.t 7) none, none⟩,
        ⟨some 9, .bld [(.d (.int .i64 0)), (.d (.int .i64 0)), .nils] [(0, 1, (.t 6)), (1, 1, (.t 8))], none⟩,
        ⟨some 3, .al [(.d (.int .i64 0)), (.d (.int .i64 0)), .nils] false, none⟩,
        ⟨none, .st (.t 3) (.t 9) 3, none⟩] [1, 2, 3])
    (.seq (.seq (.reg [⟨some 4, .mv (.c (.d (.int .i64 0))), none⟩] [1, 2, 3, 4])
      (.block 0 (.loop c_r6_copied_L0)))
     (.seq (.reg [⟨some 28, .ld (.t 3) (some 3), none⟩,
          ⟨none, .st (.t 2) (.t 28) 3, none⟩] [2])
      .ret))))

def t_r6_copied : List (List Nat × List Nat) := [([1, 2], []), ([1, 2, 3], []), ([1, 2, 3, 4], []), ([1, 2, 3, 4, 14], []), ([1, 2, 3, 4], []), ([1, 2, 3, 4], []), ([2], [])]

noncomputable def x_r6_copied : Cx := ⟨Try.prog, 24, Try.f24, 29, [], [9, 13, 11, 12, 14, 15, 16, 18, 19, 20, 24, 25, 5, 6, 7, 8], [.c 2 (some 3)]⟩
theorem g_r6_copied : Good x_r6_copied := ⟨Try.func24, by kernel_rfl⟩
theorem rs_r6_copied : x_r6_copied.rs = [.c 2 (some 3)] := rfl
theorem k_r6_copied : compC Try.prog 29 [] [9, 13, 11, 12, 14, 15, 16, 18, 19, 20, 24, 25, 5, 6, 7, 8] (Try.f24.body.getD .skip) t_r6_copied = some (c_r6_copied, []) := by kernel_rfl
theorem b_r6_copied : Try.f24.body = some (Try.f24.body.getD .skip) := by kernel_rfl
theorem i_r6_copied {args : List AV} {σ : Heap} {K : AV → Heap → Prop} (hl : args.length ≤ 29) (h : Run x_r6_copied K [.code c_r6_copied] (argF args) E σ) : ACalls Try.prog 24 args σ K :=
  acalls_of (cx := x_r6_copied) g_r6_copied b_r6_copied Try.ntmps24 hl (compC_rc x_r6_copied _ _ _ _ k_r6_copied) h

/-! ### amortcost/typing.Equal -/
def c_typing_Equal : C := (.seq (.reg [⟨some 2, .box (.t 0) false, none⟩,
       ⟨some 3, .box (.t 1) false, none⟩,
       ⟨some 4, .mv (.c (.d (.bool false))), none⟩] [2, 3])
   (.seq (.reg [⟨some 5, .fld (.t 2) 0, none⟩,
        ⟨some 6, .ld (.t 5) none, none⟩,
        ⟨some 7, .fld (.t 3) 0, none⟩,
        ⟨some 8, .ld (.t 7) none, none⟩,
        ⟨some 9, .bin .eql (.t 6) (.t 8), none⟩,
        ⟨some 10, .mv (.t 9), none⟩,
        ⟨some 11, .fld (.t 2) 1, some (10, true)⟩,
        ⟨some 12, .ld (.t 11) none, some (10, true)⟩,
        ⟨some 13, .fld (.t 3) 1, some (10, true)⟩,
        ⟨some 14, .ld (.t 13) none, some (10, true)⟩,
        ⟨some 15, .bin .eql (.t 12) (.t 14), some (10, true)⟩,
        ⟨some 16, .pick (.t 10) (.t 15) (.c (.d (.bool false))), none⟩,
        ⟨some 17, .mv (.t 16), none⟩,
        ⟨some 18, .fld (.t 2) 2, some (17, true)⟩,
        ⟨some 19, .ld (.t 18) none, some (17, true)⟩,
        ⟨some 20, .fld (.t 3) 2, some (17, true)⟩,
        ⟨some 21, .ld (.t 20) none, some (17, true)⟩,
        ⟨some 22, .call 26 [(.t 19), (.t 21), (.c (.fn 25 [] []))], some (17, true)⟩,
        ⟨some 23, .pick (.t 17) (.t 22) (.c (.d (.bool false))), none⟩,
        ⟨some 4, .mv (.t 23), none⟩] [4])
    .ret))

def t_typing_Equal : List (List Nat × List Nat) := [([2, 3], []), ([4], [])]

noncomputable def x_typing_Equal : Cx := ⟨Try.prog, 25, Try.f25, 24, [], [9, 13, 11, 12, 14, 15, 16, 18, 19, 20, 24, 25, 5, 6, 7, 8], [.t 4]⟩
theorem g_typing_Equal : Good x_typing_Equal := ⟨Try.func25, by kernel_rfl⟩
theorem rs_typing_Equal : x_typing_Equal.rs = [.t 4] := rfl
theorem k_typing_Equal : compC Try.prog 24 [] [9, 13, 11, 12, 14, 15, 16, 18, 19, 20, 24, 25, 5, 6, 7, 8] (Try.f25.body.getD .skip) t_typing_Equal = some (c_typing_Equal, []) := by kernel_rfl
theorem b_typing_Equal : Try.f25.body = some (Try.f25.body.getD .skip) := by kernel_rfl
theorem i_typing_Equal {args : List AV} {σ : Heap} {K : AV → Heap → Prop} (hl : args.length ≤ 24) (h : Run x_typing_Equal K [.code c_typing_Equal] (argF args) E σ) : ACalls Try.prog 25 args σ K :=
  acalls_of (cx := x_typing_Equal) g_typing_Equal b_typing_Equal Try.ntmps25 hl (compC_rc x_typing_Equal _ _ _ _ k_typing_Equal) h

/-! ### slices.EqualFunc(()amortcost/api.Type,()amortcost/api.Type,amortcost/api.Type,amortcost/api.Type) -/
def c_slices_EqualFunc_api_Type_L0 : C := (.seq (.reg [⟨some 18, .bin .lss (.t 17) (.t 16), none⟩] [1, 2, 15, 16, 17, 18])
   (.seq (.cond (.t 18) .skip
     (.exit 0))
    (.seq (.block 1 (.seq (.reg [⟨some 19, .mv (.t 17), none⟩,
           ⟨some 20, .ix (.t 15) (.t 17) 3, none⟩,
           ⟨some 21, .ld (.t 20) (some 3), none⟩,
           ⟨some 8, .al [(.d (.int .i64 0)), (.d (.int .i64 0)), .nils] false, none⟩,
           ⟨some 7, .mv (.t 19), none⟩,
           ⟨none, .st (.t 8) (.t 21) 3, none⟩] [1, 2, 7, 8, 15, 16, 17])
       (.seq (.reg [⟨some 22, .mv (.t 1), none⟩,
            ⟨some 23, .mv (.t 7), none⟩,
            ⟨some 24, .ix (.t 22) (.t 23) 3, none⟩,
            ⟨some 25, .ld (.t 24) (some 3), none⟩,
            ⟨some 9, .al [(.d (.int .i64 0)), (.d (.int .i64 0)), .nils] false, none⟩,
            ⟨none, .st (.t 9) (.t 25) 3, none⟩] [1, 2, 8, 9, 15, 16, 17])
        (.seq (.reg [⟨some 26, .mv (.t 2), none⟩,
             ⟨some 27, .ld (.t 8) (some 3), none⟩,
             ⟨some 28, .ld (.t 9) (some 3), none⟩,
             ⟨some 29, .callv (.t 26) [(.t 27), (.t 28)], none⟩,
             ⟨some 30, .un .not (.t 29), none⟩] [1, 2, 15, 16, 17, 30])
         (.cond (.t 30) (.seq (.reg [⟨some 6, .mv (.c (.d (.bool false))), none⟩] [6])
           .ret)
          .skip)))))
     (.reg [⟨some 31, .bin .add (.t 17) (.c (.d (.int .i64 1))), none⟩,
         ⟨some 17, .mv (.t 31), none⟩] [1, 2, 15, 16, 17]))))

def c_slices_EqualFunc_api_Type : C := (.seq (.reg [⟨some 6, .mv (.c (.d (.bool false))), none⟩] [0, 1, 2])
   (.seq (.seq (.reg [⟨some 10, .mv (.t 0), none⟩,
         ⟨some 11, .len (.t 10), none⟩,
         ⟨some 12, .mv (.t 1), none⟩,
         ⟨some 13, .len (.t 12), none⟩,
         ⟨some 14, .bin .neq (.t 11) (.t 13), none⟩] [0, 1, 2, 14])
     (.cond (.t 14) (.seq (.reg [⟨some 6, .mv (.c (.d (.bool false))), none⟩] [6])
       .ret)
      .skip))
    (.seq (.seq (.reg [⟨some 15, .mv (.t 0), none⟩,
          ⟨some 16, .len (.t 15), none⟩,
          ⟨some 17, .mv (.c (.d (.int .i64 0))), none⟩] [1, 2, 15, 16, 17])
      (.block 0 (.loop c_slices_EqualFunc_api_Type_L0)))
     (.seq (.reg [⟨some 6, .mv (.c (.d (.bool true))), none⟩] [6])
      .ret))))

def t_slices_EqualFunc_api_Type : List (List Nat × List Nat) := [([0, 1, 2], []), ([0, 1, 2, 14], []), ([6], []), ([1, 2, 15, 16, 17], []), ([1, 2, 15, 16, 17, 18], []), ([1, 2, 7, 8, 15, 16, 17], []), ([1, 2, 8, 9, 15, 16, 17], []), ([1, 2, 15, 16, 17, 30], []), ([6], []), ([1, 2, 15, 16, 17], []), ([6], [])]

noncomputable def x_slices_EqualFunc_api_Type : Cx := ⟨Try.prog, 26, Try.f26, 32, [], [9, 13, 11, 12, 14, 15, 16, 18, 19, 20, 24, 25, 5, 6, 7, 8], [.t 6]⟩
theorem g_slices_EqualFunc_api_Type : Good x_slices_EqualFunc_api_Type := ⟨Try.func26, by kernel_rfl⟩
theorem rs_slices_EqualFunc_api_Type : x_slices_EqualFunc_api_Type.rs = [.t 6] := rfl
theorem k_slices_EqualFunc_api_Type : compC Try.prog 32 [] [9, 13, 11, 12, 14, 15, 16, 18, 19, 20, 24, 25, 5, 6, 7, 8] (Try.f26.body.getD .skip) t_slices_EqualFunc_api_Type = some (c_slices_EqualFunc_api_Type, []) := by kernel_rfl
theorem b_slices_EqualFunc_api_Type : Try.f26.body = some (Try.f26.body.getD .skip) := by kernel_rfl
theorem i_slices_EqualFunc_api_Type {args : List AV} {σ : Heap} {K : AV → Heap → Prop} (hl : args.length ≤ 32) (h : Run x_slices_EqualFunc_api_Type K [.code c_slices_EqualFunc_api_Type] (argF args) E σ) : ACalls Try.prog 26 args σ K :=
  acalls_of (cx := x_slices_EqualFunc_api_Type) g_slices_EqualFunc_api_Type b_slices_EqualFunc_api_Type Try.ntmps26 hl (compC_rc x_slices_EqualFunc_api_Type _ _ _ _ k_slices_EqualFunc_api_Type) h

/-! ### slices.IndexFunc(()amortcost/api.Type,amortcost/api.Type) -/
def c_slices_IndexFunc_api_Type_L0 : C := (.seq (.reg [⟨some 9, .bin .lss (.t 8) (.t 7), none⟩] [0, 1, 7, 8, 9])
   (.seq (.cond (.t 9) .skip
     (.exit 0))
    (.seq (.block 1 (.seq (.reg [⟨some 10, .mv (.t 8), none⟩,
           ⟨some 5, .mv (.t 10), none⟩] [0, 1, 5, 7, 8])
       (.seq (.reg [⟨some 11, .mv (.t 1), none⟩,
            ⟨some 12, .mv (.t 0), none⟩,
            ⟨some 13, .mv (.t 5), none⟩,
            ⟨some 14, .ix (.t 12) (.t 13) 3, none⟩,
            ⟨some 15, .ld (.t 14) (some 3), none⟩,
            ⟨some 16, .callv (.t 11) [(.t 15)], none⟩] [0, 1, 5, 7, 8, 16])
        (.cond (.t 16) (.seq (.reg [⟨some 17, .mv (.t 5), none⟩,
              ⟨some 4, .mv (.t 17), none⟩] [4])
          .ret)
         .skip))))
     (.reg [⟨some 18, .bin .add (.t 8) (.c (.d (.int .i64 1))), none⟩,
         ⟨some 8, .mv (.t 18), none⟩] [0, 1, 7, 8]))))

def c_slices_IndexFunc_api_Type : C := (.seq (.reg [⟨some 4, .mv (.c (.d (.int .i64 0))), none⟩] [0, 1])
   (.seq (.seq (.reg [⟨some 6, .mv (.t 0), none⟩,
         ⟨some 7, .len (.t 6), none⟩,
         ⟨some 8, .mv (.c (.d (.int .i64 0))), none⟩] [0, 1, 7, 8])
     (.block 0 (.loop c_slices_IndexFunc_api_Type_L0)))
    (.seq (.reg [⟨some 4, .mv (.c (.d (.int .i64 (-1)))), none⟩] [4])
     .ret)))

def t_slices_IndexFunc_api_Type : List (List Nat × List Nat) := [([0, 1], []), ([0, 1, 7, 8], []), ([0, 1, 7, 8, 9], []), ([0, 1, 5, 7, 8], []), ([0, 1, 5, 7, 8, 16], []), ([4], []), ([0, 1, 7, 8], []), ([4], [])]

noncomputable def x_slices_IndexFunc_api_Type : Cx := ⟨Try.prog, 27, Try.f27, 19, [], [9, 13, 11, 12, 14, 15, 16, 18, 19, 20, 24, 25, 5, 6, 7, 8], [.t 4]⟩
theorem g_slices_IndexFunc_api_Type : Good x_slices_IndexFunc_api_Type := ⟨Try.func27, by kernel_rfl⟩
theorem rs_slices_IndexFunc_api_Type : x_slices_IndexFunc_api_Type.rs = [.t 4] := rfl
theorem k_slices_IndexFunc_api_Type : compC Try.prog 19 [] [9, 13, 11, 12, 14, 15, 16, 18, 19, 20, 24, 25, 5, 6, 7, 8] (Try.f27.body.getD .skip) t_slices_IndexFunc_api_Type = some (c_slices_IndexFunc_api_Type, []) := by kernel_rfl
theorem b_slices_IndexFunc_api_Type : Try.f27.body = some (Try.f27.body.getD .skip) := by kernel_rfl
theorem i_slices_IndexFunc_api_Type {args : List AV} {σ : Heap} {K : AV → Heap → Prop} (hl : args.length ≤ 19) (h : Run x_slices_IndexFunc_api_Type K [.code c_slices_IndexFunc_api_Type] (argF args) E σ) : ACalls Try.prog 27 args σ K :=
  acalls_of (cx := x_slices_IndexFunc_api_Type) g_slices_IndexFunc_api_Type b_slices_IndexFunc_api_Type Try.ntmps27 hl (compC_rc x_slices_IndexFunc_api_Type _ _ _ _ k_slices_IndexFunc_api_Type) h

end Go.Ab
