/- The compact codes of the functions of this seat, computed out of the translation. Conditions: none. -/
import Derived.Test.YtdbpmhfepfpldaaDoorXCdF
import Derived.Test.YtdbpmhfepfpldaaDoorProg
import Derived.KernelRfl
set_option linter.unusedSimpArgs false
set_option linter.unusedVariables false
namespace Go.Ab
open Go.Proofs


/-! ### amortcost/amortcostlaw19.FormSubstitutes -/
def c_law19_FormSubstitutes : C := (.seq (.reg [⟨some 3, .box (.t 0) false, none⟩,
       ⟨some 6, .mv (.c (.d (.bool false))), none⟩] [1, 2, 3])
   (.seq (.seq (.reg [⟨some 11, .ldl (.t 3) (some 2), none⟩,
         ⟨some 12, .call 36 [(.t 11)], none⟩,
         ⟨some 13, .un .not (.t 12), none⟩,
         ⟨some 14, .mv (.t 13), none⟩,
         ⟨some 15, .mv (.t 1), some (14, false)⟩,
         ⟨some 16, .len (.t 15), some (14, false)⟩,
         ⟨some 17, .bin .gtr (.t 16) (.c (.d (.int .i64 8))), some (14, false)⟩,
         ⟨some 18, .pick (.t 14) (.c (.d (.bool true))) (.t 17), none⟩,
         ⟨some 19, .mv (.t 18), none⟩,
         ⟨some 20, .mv (.t 2), some (19, false)⟩,
         ⟨some 21, .call 23 [(.t 20)], some (19, false)⟩,
         ⟨some 22, .un .not (.t 21), some (19, false)⟩,
         ⟨some 23, .pick (.t 19) (.c (.d (.bool true))) (.t 22), none⟩] [1, 2, 3, 23])
     (.cond (.t 23) (.seq (.reg [⟨some 6, .mv (.c (.d (.bool true))), none⟩] [6])
       .ret)
      .skip))
    (.seq (.reg [⟨some 25, .ldl (.t 3) (some 2), none⟩,
         ⟨some 26, .mv (.t 1), none⟩,
         ⟨some 27, .mv (.t 2), none⟩,
         ⟨some 28, .call 41 [(.t 25), (.t 26), (.t 27)], none⟩,
         ⟨some 24, .mv (.t 28), none⟩,
         ⟨some 29, .ext (.t 24) 0, none⟩,
         ⟨some 30, .ext (.t 24) 1, none⟩,
         ⟨some 7, .al [(.d (.int .i64 0)), .nils] false, none⟩,
         ⟨none, .st (.t 7) (.t 29) 2, none⟩,
         ⟨some 8, .mv (.t 30), none⟩] [1, 2, 3, 7, 8])
     (.seq (.reg [⟨some 32, .ldl (.t 3) (some 2), none⟩,
          ⟨some 33, .mv (.t 1), none⟩,
          ⟨some 34, .mv (.t 2), none⟩,
          ⟨some 35, .call 42 [(.t 32), (.t 33), (.t 34)], none⟩,
          ⟨some 31, .mv (.t 35), none⟩,
          ⟨some 36, .ext (.t 31) 0, none⟩,
          ⟨some 37, .ext (.t 31) 1, none⟩,
          ⟨some 9, .al [(.d (.int .i64 0)), .nils] false, none⟩,
          ⟨none, .st (.t 9) (.t 36) 2, none⟩,
          ⟨some 10, .mv (.t 37), none⟩] [7, 8, 9, 10])
      (.seq (.reg [⟨some 38, .mv (.t 8), none⟩,
           ⟨some 39, .mv (.t 10), none⟩,
           ⟨some 40, .bin .eql (.t 38) (.t 39), none⟩,
           ⟨some 41, .mv (.t 40), none⟩,
           ⟨some 42, .ldl (.t 7) (some 2), some (41, true)⟩,
           ⟨some 43, .ldl (.t 9) (some 2), some (41, true)⟩,
           ⟨some 44, .call 17 [(.t 42), (.t 43)], some (41, true)⟩,
           ⟨some 45, .pick (.t 41) (.t 44) (.c (.d (.bool false))), none⟩,
           ⟨some 46, .mv (.t 45), none⟩,
           ⟨some 47, .call 22 [], some (46, true)⟩,
           ⟨some 48, .pick (.t 46) (.t 47) (.c (.d (.bool false))), none⟩,
           ⟨some 6, .mv (.t 48), none⟩] [6])
       .ret)))))

def t_law19_FormSubstitutes : List (List Nat × PT) := [([1, 2, 3], .done), ([1, 2, 3, 23], .done), ([6], .done), ([1, 2, 3, 7, 8], .done), ([7, 8, 9, 10], .done), ([6], .done)]

noncomputable def x_law19_FormSubstitutes : Cx := ⟨Tryd.prog, 10, Tryd.f10, 49, [300011, 300025, 300032, 300042, 300043], [], [.t 6]⟩
theorem g_law19_FormSubstitutes : Good x_law19_FormSubstitutes := ⟨Tryd.func10, by kernel_rfl⟩
theorem rs_law19_FormSubstitutes : x_law19_FormSubstitutes.rs = [.t 6] := rfl
theorem k_law19_FormSubstitutes : compC Tryd.prog 49 [300011, 300025, 300032, 300042, 300043] [] (Tryd.f10.body.getD .skip) t_law19_FormSubstitutes = some (c_law19_FormSubstitutes, []) := by kernel_rfl
theorem b_law19_FormSubstitutes : Tryd.f10.body = some (Tryd.f10.body.getD .skip) := by kernel_rfl
theorem i_law19_FormSubstitutes {args : List AV} {σ : Heap} {K : AV → Heap → Prop} (hl : args.length ≤ 49) (h : Run x_law19_FormSubstitutes K [.code c_law19_FormSubstitutes] (argF args) E σ) : ACalls Tryd.prog 10 args σ K :=
  acalls_of (cx := x_law19_FormSubstitutes) g_law19_FormSubstitutes b_law19_FormSubstitutes Tryd.ntmps10 hl (compC_rc x_law19_FormSubstitutes _ _ _ _ k_law19_FormSubstitutes) h

/-! ### amortcost/linear.Subst -/
/- slots of c_linear_Subst_L0 : [1, 2, 6, 8, 9, 33, 34, 35] -/
def c_linear_Subst_L0 : C := (.seq (.reg [⟨some 36, .bin .lss (.t 35) (.t 34), none⟩] [1, 2, 6, 8, 9, 33, 34, 35, 36])
   (.seq (.cond (.t 36) .skip
     (.exit 0))
    (.seq (.block 1 (.seq (.reg [⟨some 37, .ix (.t 33) (.t 35) 2, none⟩,
           ⟨some 38, .ld (.t 37) (some 2), none⟩,
           ⟨some 11, .al [(.d (.int .i64 0)), (.d (.int .i64 0))] false, none⟩,
           ⟨none, .st (.t 11) (.t 38) 2, none⟩] [1, 2, 6, 8, 9, 11, 33, 34, 35])
       (.seq (.reg [⟨some 39, .mv (.t 1), none⟩,
            ⟨some 40, .fld (.t 11) 0, none⟩,
            ⟨some 41, .ldl (.t 40) none, none⟩,
            ⟨some 42, .call 77 [(.t 39), (.t 41)], none⟩,
            ⟨some 12, .mv (.t 42), none⟩] [1, 2, 6, 8, 9, 11, 12, 33, 34, 35])
        (.seq (.seq (.reg [⟨some 43, .mv (.t 12), none⟩,
              ⟨some 44, .bin .lss (.t 43) (.c (.d (.int .i64 0))), none⟩] [1, 2, 6, 8, 9, 11, 12, 33, 34, 35, 44])
          (.cond (.t 44) (.seq (.reg [⟨some 45, .mv (.t 9), none⟩,
                ⟨some 46, .ldl (.t 11) (some 2), none⟩,
                ⟨some 47, .bsl 2 1 [(.d (.int .i64 0)), (.d (.int .i64 0))] [(0, 2, (.t 46))], none⟩,
                ⟨some 48, .app 49 2 16 (.t 45) (.t 47), none⟩,
                ⟨some 9, .mv (.t 48), none⟩] [1, 2, 6, 8, 9, 33, 34, 35])
            (.exit 1))
           .skip))
         (.seq (.reg [⟨some 49, .mv (.t 8), none⟩,
              ⟨some 50, .fld (.t 11) 1, none⟩,
              ⟨some 51, .ldl (.t 50) none, none⟩,
              ⟨some 52, .mv (.t 2), none⟩,
              ⟨some 53, .mv (.t 12), none⟩,
              ⟨some 54, .ix (.t 52) (.t 53) 2, none⟩,
              ⟨some 55, .fld (.t 54) 0, none⟩,
              ⟨some 56, .ld (.t 55) none, none⟩,
              ⟨some 57, .bin .mul (.t 51) (.t 56), none⟩,
              ⟨some 58, .bin .add (.t 49) (.t 57), none⟩,
              ⟨some 8, .mv (.t 58), none⟩] [1, 2, 6, 8, 9, 11, 12, 33, 34, 35])
          (.reg [⟨some 59, .mv (.t 9), none⟩,
              ⟨some 60, .mv (.t 2), none⟩,
              ⟨some 61, .mv (.t 12), none⟩,
              ⟨some 62, .ix (.t 60) (.t 61) 2, none⟩,
              ⟨some 63, .fld (.t 62) 1, none⟩,
              ⟨some 64, .ld (.t 63) none, none⟩,
              ⟨some 65, .fld (.t 11) 1, none⟩,
              ⟨some 66, .ldl (.t 65) none, none⟩,
              ⟨some 67, .call 61 [(.t 64), (.t 66)], none⟩,
              ⟨some 68, .app 49 2 16 (.t 59) (.t 67), none⟩,
              ⟨some 9, .mv (.t 68), none⟩] [1, 2, 6, 8, 9, 33, 34, 35]))))))
     (.reg [⟨some 69, .bin .add (.t 35) (.c (.d (.int .i64 1))), none⟩,
         ⟨some 35, .mv (.t 69), none⟩] [1, 2, 6, 8, 9, 33, 34, 35]))))

def c_linear_Subst : C := (.seq (.reg [⟨some 3, .box (.t 0) false, none⟩,
       ⟨some 6, .al [(.d (.int .i64 0)), .nils] false, none⟩,
       ⟨some 7, .mv (.c (.d (.int .i64 0))), none⟩] [1, 2, 3, 6])
   (.seq (.seq (.reg [⟨some 13, .ldl (.t 3) (some 2), none⟩,
         ⟨some 14, .call 35 [(.t 13)], none⟩,
         ⟨some 15, .un .not (.t 14), none⟩,
         ⟨some 16, .mv (.t 15), none⟩,
         ⟨some 17, .mv (.t 2), some (16, false)⟩,
         ⟨some 18, .call 74 [(.t 17), (.c (.fn 75 [] []))], some (16, false)⟩,
         ⟨some 19, .pick (.t 16) (.c (.d (.bool true))) (.t 18), none⟩] [1, 2, 3, 6, 19])
     (.cond (.t 19) (.seq (.reg [⟨some 20, .bld [(.d (.int .i64 0)), .nils] [], none⟩,
           ⟨none, .st (.t 6) (.t 20) 2, none⟩,
           ⟨some 7, .mv (.c (.d (.int .i64 1))), none⟩] [6, 7])
       .ret)
      .skip))
    (.seq (.seq (.reg [⟨some 21, .mv (.t 1), none⟩,
          ⟨some 22, .len (.t 21), none⟩,
          ⟨some 23, .mv (.t 2), none⟩,
          ⟨some 24, .len (.t 23), none⟩,
          ⟨some 25, .bin .neq (.t 22) (.t 24), none⟩] [1, 2, 3, 6, 25])
      (.cond (.t 25) (.seq (.reg [⟨some 26, .bld [(.d (.int .i64 0)), .nils] [], none⟩,
            ⟨none, .st (.t 6) (.t 26) 2, none⟩,
            ⟨some 7, .mv (.c (.d (.int .i64 5))), none⟩] [6, 7])
        .ret)
       .skip))
     (.seq (.seq (.reg [⟨some 27, .mv (.t 1), none⟩,
           ⟨some 28, .call 76 [(.t 27)], none⟩] [1, 2, 3, 6, 28])
       (.cond (.t 28) (.seq (.reg [⟨some 29, .bld [(.d (.int .i64 0)), .nils] [], none⟩,
             ⟨none, .st (.t 6) (.t 29) 2, none⟩,
             ⟨some 7, .mv (.c (.d (.int .i64 4))), none⟩] [6, 7])
         .ret)
        .skip))
      (.seq (.reg [⟨some 30, .fld (.t 3) 0, none⟩,
           ⟨some 31, .ldl (.t 30) none, none⟩,
           ⟨some 8, .mv (.t 31), none⟩] [1, 2, 3, 6, 8])
       (.seq (.reg [⟨some 9, .mv (.c .nils), none⟩] [1, 2, 3, 6, 8, 9])
        (.seq (.seq (.reg [⟨some 32, .fld (.t 3) 1, none⟩,
              ⟨some 33, .ldl (.t 32) none, none⟩,
              ⟨some 34, .len (.t 33), none⟩,
              ⟨some 35, .mv (.c (.d (.int .i64 0))), none⟩] [1, 2, 6, 8, 9, 33, 34, 35])
          (.block 0 (.loop c_linear_Subst_L0)))
         (.seq (.reg [⟨some 70, .mv (.t 8), none⟩,
              ⟨some 71, .mv (.t 9), none⟩,
              ⟨some 72, .call 57 [(.t 70), (.t 71)], none⟩,
              ⟨some 73, .ext (.t 72) 0, none⟩,
              ⟨some 74, .ext (.t 72) 1, none⟩,
              ⟨none, .st (.t 6) (.t 73) 2, none⟩,
              ⟨some 7, .mv (.t 74), none⟩] [6, 7])
          .ret))))))))

def t_linear_Subst : List (List Nat × PT) := [([1, 2, 3, 6], .done), ([1, 2, 3, 6, 19], .done), ([6, 7], .done), ([1, 2, 3, 6, 25], .done), ([6, 7], .done), ([1, 2, 3, 6, 28], .done), ([6, 7], .done), ([1, 2, 3, 6, 8], .done), ([1, 2, 3, 6, 8, 9], .done), ([1, 2, 6, 8, 9, 33, 34, 35], .done), ([1, 2, 6, 8, 9, 33, 34, 35, 36], .done), ([1, 2, 6, 8, 9, 11, 33, 34, 35], .done), ([1, 2, 6, 8, 9, 11, 12, 33, 34, 35], .done), ([1, 2, 6, 8, 9, 11, 12, 33, 34, 35, 44], .done), ([1, 2, 6, 8, 9, 33, 34, 35], .done), ([1, 2, 6, 8, 9, 11, 12, 33, 34, 35], .done), ([1, 2, 6, 8, 9, 33, 34, 35], .done), ([1, 2, 6, 8, 9, 33, 34, 35], .done), ([6, 7], .done)]

noncomputable def x_linear_Subst : Cx := ⟨Tryd.prog, 41, Tryd.f41, 75, [300013, 300031, 300033, 300041, 300046, 300051, 300066], [], [.c 6 (some 2), .t 7]⟩
theorem g_linear_Subst : Good x_linear_Subst := ⟨Tryd.func41, by kernel_rfl⟩
theorem rs_linear_Subst : x_linear_Subst.rs = [.c 6 (some 2), .t 7] := rfl
theorem k_linear_Subst : compC Tryd.prog 75 [300013, 300031, 300033, 300041, 300046, 300051, 300066] [] (Tryd.f41.body.getD .skip) t_linear_Subst = some (c_linear_Subst, []) := by kernel_rfl
theorem b_linear_Subst : Tryd.f41.body = some (Tryd.f41.body.getD .skip) := by kernel_rfl
theorem i_linear_Subst {args : List AV} {σ : Heap} {K : AV → Heap → Prop} (hl : args.length ≤ 75) (h : Run x_linear_Subst K [.code c_linear_Subst] (argF args) E σ) : ACalls Tryd.prog 41 args σ K :=
  acalls_of (cx := x_linear_Subst) g_linear_Subst b_linear_Subst Tryd.ntmps41 hl (compC_rc x_linear_Subst _ _ _ _ k_linear_Subst) h

/-! ### amortcost/amortcostref19.Subst -/
/- slots of c_r19_Subst_L0 : [1, 2, 3, 6, 21, 22, 23] -/
def c_r19_Subst_L0 : C := (.seq (.reg [⟨some 24, .bin .lss (.t 23) (.t 22), none⟩] [1, 2, 3, 6, 21, 22, 23, 24])
   (.seq (.cond (.t 24) .skip
     (.exit 0))
    (.seq (.block 1 (.seq (.reg [⟨some 25, .ix (.t 21) (.t 23) 2, none⟩,
           ⟨some 26, .ld (.t 25) (some 2), none⟩,
           ⟨some 9, .al [(.d (.int .i64 0)), .nils] false, none⟩,
           ⟨none, .st (.t 9) (.t 26) 2, none⟩] [1, 2, 3, 6, 9, 21, 22, 23])
       (.seq (.reg [⟨some 27, .ldl (.t 9) (some 2), none⟩,
            ⟨some 28, .call 26 [(.t 27)], none⟩,
            ⟨some 29, .un .not (.t 28), none⟩] [1, 2, 3, 6, 21, 22, 23, 29])
        (.cond (.t 29) (.seq (.reg [⟨some 30, .bld [(.d (.int .i64 0)), .nils] [], none⟩,
              ⟨none, .st (.t 6) (.t 30) 2, none⟩,
              ⟨some 7, .mv (.c (.d (.int .i64 1))), none⟩] [6, 7])
          .ret)
         .skip))))
     (.reg [⟨some 31, .bin .add (.t 23) (.c (.d (.int .i64 1))), none⟩,
         ⟨some 23, .mv (.t 31), none⟩] [1, 2, 3, 6, 21, 22, 23]))))

/- slots of c_r19_Subst_L1 : [1, 2, 3, 6, 10, 11, 39, 40] -/
def c_r19_Subst_L1 : C := (.seq (.seq (.reg [⟨some 43, .mv (.t 11), none⟩,
        ⟨some 44, .mv (.t 10), none⟩,
        ⟨some 45, .bin .lss (.t 43) (.t 44), none⟩] [1, 2, 3, 6, 10, 11, 39, 40, 45])
    (.cond (.t 45) .skip
     (.exit 4)))
   (.seq (.block 5 (.seq (.reg [⟨some 48, .mv (.t 1), none⟩,
          ⟨some 49, .mv (.t 10), none⟩,
          ⟨some 50, .ix (.t 48) (.t 49) 1, none⟩,
          ⟨some 51, .ld (.t 50) none, none⟩,
          ⟨some 52, .mv (.t 1), none⟩,
          ⟨some 53, .mv (.t 11), none⟩,
          ⟨some 54, .ix (.t 52) (.t 53) 1, none⟩,
          ⟨some 55, .ld (.t 54) none, none⟩,
          ⟨some 56, .bin .eql (.t 51) (.t 55), none⟩] [1, 2, 3, 6, 10, 11, 39, 40, 56])
      (.cond (.t 56) (.seq (.reg [⟨some 57, .bld [(.d (.int .i64 0)), .nils] [], none⟩,
            ⟨none, .st (.t 6) (.t 57) 2, none⟩,
            ⟨some 7, .mv (.c (.d (.int .i64 4))), none⟩] [6, 7])
        .ret)
       .skip)))
    (.reg [⟨some 46, .mv (.t 11), none⟩,
        ⟨some 47, .bin .add (.t 46) (.c (.d (.int .i64 1))), none⟩,
        ⟨some 11, .mv (.t 47), none⟩] [1, 2, 3, 6, 10, 11, 39, 40])))

/- slots of c_r19_Subst_L2 : [1, 2, 3, 6, 39, 40] -/
def c_r19_Subst_L2 : C := (.seq (.reg [⟨some 41, .bin .lss (.t 40) (.t 39), none⟩] [1, 2, 3, 6, 39, 40, 41])
   (.seq (.cond (.t 41) .skip
     (.exit 2))
    (.seq (.block 3 (.seq (.reg [⟨some 42, .mv (.t 40), none⟩,
           ⟨some 10, .mv (.t 42), none⟩] [1, 2, 3, 6, 10, 39, 40])
       (.seq (.reg [⟨some 11, .mv (.c (.d (.int .i64 0))), none⟩] [1, 2, 3, 6, 10, 11, 39, 40])
        (.block 4 (.loop c_r19_Subst_L1)))))
     (.reg [⟨some 58, .bin .add (.t 40) (.c (.d (.int .i64 1))), none⟩,
         ⟨some 40, .mv (.t 58), none⟩] [1, 2, 3, 6, 39, 40]))))

/- slots of c_r19_Subst_L3 : [1, 2, 6, 12, 14, 15, 63, 64, 65, 73, 74] -/
def c_r19_Subst_L3 : C := (.seq (.reg [⟨some 75, .bin .lss (.t 74) (.t 73), none⟩] [1, 2, 6, 12, 14, 15, 63, 64, 65, 73, 74, 75])
   (.seq (.cond (.t 75) .skip
     (.exit 8))
    (.seq (.block 9 (.seq (.reg [⟨some 76, .mv (.t 74), none⟩,
           ⟨some 16, .mv (.t 76), none⟩] [1, 2, 6, 12, 14, 15, 16, 63, 64, 65, 73, 74])
       (.seq (.reg [⟨some 77, .mv (.t 1), none⟩,
            ⟨some 78, .mv (.t 16), none⟩,
            ⟨some 79, .ix (.t 77) (.t 78) 1, none⟩,
            ⟨some 80, .ld (.t 79) none, none⟩,
            ⟨some 81, .fld (.t 14) 0, none⟩,
            ⟨some 82, .ldl (.t 81) none, none⟩,
            ⟨some 83, .bin .eql (.t 80) (.t 82), none⟩] [1, 2, 6, 12, 14, 15, 16, 63, 64, 65, 73, 74, 83])
        (.cond (.t 83) (.reg [⟨some 84, .mv (.t 2), none⟩,
             ⟨some 85, .mv (.t 16), none⟩,
             ⟨some 86, .ix (.t 84) (.t 85) 2, none⟩,
             ⟨some 87, .ld (.t 86) (some 2), none⟩,
             ⟨none, .st (.t 15) (.t 87) 2, none⟩] [1, 2, 6, 12, 14, 15, 63, 64, 65, 73, 74])
         .skip))))
     (.reg [⟨some 88, .bin .add (.t 74) (.c (.d (.int .i64 1))), none⟩,
         ⟨some 74, .mv (.t 88), none⟩] [1, 2, 6, 12, 14, 15, 63, 64, 65, 73, 74]))))

/- slots of c_r19_Subst_L4 : [1, 2, 6, 12, 63, 64, 65] -/
def c_r19_Subst_L4 : C := (.seq (.reg [⟨some 66, .bin .lss (.t 65) (.t 64), none⟩] [1, 2, 6, 12, 63, 64, 65, 66])
   (.seq (.cond (.t 66) .skip
     (.exit 6))
    (.seq (.block 7 (.seq (.reg [⟨some 67, .ix (.t 63) (.t 65) 2, none⟩,
           ⟨some 68, .ld (.t 67) (some 2), none⟩,
           ⟨some 14, .al [(.d (.int .i64 0)), (.d (.int .i64 0))] false, none⟩,
           ⟨none, .st (.t 14) (.t 68) 2, none⟩] [1, 2, 6, 12, 14, 63, 64, 65])
       (.seq (.reg [⟨some 69, .fld (.t 14) 0, none⟩,
            ⟨some 70, .ldl (.t 69) none, none⟩,
            ⟨some 71, .call 21 [(.t 70)], none⟩,
            ⟨some 15, .al [(.d (.int .i64 0)), .nils] false, none⟩,
            ⟨none, .st (.t 15) (.t 71) 2, none⟩] [1, 2, 6, 12, 14, 15, 63, 64, 65])
        (.seq (.seq (.reg [⟨some 72, .mv (.t 1), none⟩,
              ⟨some 73, .len (.t 72), none⟩,
              ⟨some 74, .mv (.c (.d (.int .i64 0))), none⟩] [1, 2, 6, 12, 14, 15, 63, 64, 65, 73, 74])
          (.block 8 (.loop c_r19_Subst_L3)))
         (.reg [⟨some 89, .ldl (.t 12) (some 2), none⟩,
             ⟨some 90, .ldl (.t 15) (some 2), none⟩,
             ⟨some 91, .fld (.t 14) 1, none⟩,
             ⟨some 92, .ldl (.t 91) none, none⟩,
             ⟨some 93, .call 60 [(.t 89), (.t 90), (.t 92)], none⟩,
             ⟨none, .st (.t 12) (.t 93) 2, none⟩] [1, 2, 6, 12, 63, 64, 65])))))
     (.reg [⟨some 94, .bin .add (.t 65) (.c (.d (.int .i64 1))), none⟩,
         ⟨some 65, .mv (.t 94), none⟩] [1, 2, 6, 12, 63, 64, 65]))))

def c_r19_Subst : C := (.seq (.reg [⟨some 3, .box (.t 0) false, none⟩,
       ⟨some 6, .al [(.d (.int .i64 0)), .nils] false, none⟩,
       ⟨some 7, .mv (.c (.d (.int .i64 0))), none⟩] [1, 2, 3, 6])
   (.seq (.seq (.reg [⟨some 17, .ldl (.t 3) (some 2), none⟩,
         ⟨some 18, .call 26 [(.t 17)], none⟩,
         ⟨some 19, .un .not (.t 18), none⟩] [1, 2, 3, 6, 19])
     (.cond (.t 19) (.seq (.reg [⟨some 20, .bld [(.d (.int .i64 0)), .nils] [], none⟩,
           ⟨none, .st (.t 6) (.t 20) 2, none⟩,
           ⟨some 7, .mv (.c (.d (.int .i64 1))), none⟩] [6, 7])
       .ret)
      .skip))
    (.seq (.seq (.reg [⟨some 21, .mv (.t 2), none⟩,
          ⟨some 22, .len (.t 21), none⟩,
          ⟨some 23, .mv (.c (.d (.int .i64 0))), none⟩] [1, 2, 3, 6, 21, 22, 23])
      (.block 0 (.loop c_r19_Subst_L0)))
     (.seq (.seq (.reg [⟨some 32, .mv (.t 1), none⟩,
           ⟨some 33, .len (.t 32), none⟩,
           ⟨some 34, .mv (.t 2), none⟩,
           ⟨some 35, .len (.t 34), none⟩,
           ⟨some 36, .bin .neq (.t 33) (.t 35), none⟩] [1, 2, 3, 6, 36])
       (.cond (.t 36) (.seq (.reg [⟨some 37, .bld [(.d (.int .i64 0)), .nils] [], none⟩,
             ⟨none, .st (.t 6) (.t 37) 2, none⟩,
             ⟨some 7, .mv (.c (.d (.int .i64 5))), none⟩] [6, 7])
         .ret)
        .skip))
      (.seq (.seq (.reg [⟨some 38, .mv (.t 1), none⟩,
            ⟨some 39, .len (.t 38), none⟩,
            ⟨some 40, .mv (.c (.d (.int .i64 0))), none⟩] [1, 2, 3, 6, 39, 40])
        (.block 2 (.loop c_r19_Subst_L2)))
       (.seq (.reg [⟨some 59, .fld (.t 3) 0, none⟩,
            ⟨some 60, .ldl (.t 59) none, none⟩,
            ⟨some 61, .bld [(.d (.int .i64 0)), .nils] [(0, 1, (.t 60))], none⟩,
            ⟨some 12, .al [(.d (.int .i64 0)), .nils] false, none⟩,
            ⟨none, .st (.t 12) (.t 61) 2, none⟩] [1, 2, 3, 6, 12])
        (.seq (.seq (.reg [⟨some 62, .fld (.t 3) 1, none⟩,
              ⟨some 63, .ldl (.t 62) none, none⟩,
              ⟨some 64, .len (.t 63), none⟩,
              ⟨some 65, .mv (.c (.d (.int .i64 0))), none⟩] [1, 2, 6, 12, 63, 64, 65])
          (.block 6 (.loop c_r19_Subst_L4)))
         (.seq (.reg [⟨some 95, .ldl (.t 12) (some 2), none⟩,
              ⟨some 96, .call 59 [(.t 95)], none⟩,
              ⟨some 97, .ext (.t 96) 0, none⟩,
              ⟨some 98, .ext (.t 96) 1, none⟩,
              ⟨none, .st (.t 6) (.t 97) 2, none⟩,
              ⟨some 7, .mv (.t 98), none⟩] [6, 7])
          .ret))))))))

def t_r19_Subst : List (List Nat × PT) := [([1, 2, 3, 6], .done), ([1, 2, 3, 6, 19], .done), ([6, 7], .done), ([1, 2, 3, 6, 21, 22, 23], .done), ([1, 2, 3, 6, 21, 22, 23, 24], .done), ([1, 2, 3, 6, 9, 21, 22, 23], .done), ([1, 2, 3, 6, 21, 22, 23, 29], .done), ([6, 7], .done), ([1, 2, 3, 6, 21, 22, 23], .done), ([1, 2, 3, 6, 36], .done), ([6, 7], .done), ([1, 2, 3, 6, 39, 40], .done), ([1, 2, 3, 6, 39, 40, 41], .done), ([1, 2, 3, 6, 10, 39, 40], .done), ([1, 2, 3, 6, 10, 11, 39, 40], .done), ([1, 2, 3, 6, 10, 11, 39, 40, 45], .done), ([1, 2, 3, 6, 10, 11, 39, 40, 56], .done), ([6, 7], .done), ([1, 2, 3, 6, 10, 11, 39, 40], .done), ([1, 2, 3, 6, 39, 40], .done), ([1, 2, 3, 6, 12], .done), ([1, 2, 6, 12, 63, 64, 65], .done), ([1, 2, 6, 12, 63, 64, 65, 66], .done), ([1, 2, 6, 12, 14, 63, 64, 65], .done), ([1, 2, 6, 12, 14, 15, 63, 64, 65], .done), ([1, 2, 6, 12, 14, 15, 63, 64, 65, 73, 74], .done), ([1, 2, 6, 12, 14, 15, 63, 64, 65, 73, 74, 75], .done), ([1, 2, 6, 12, 14, 15, 16, 63, 64, 65, 73, 74], .done), ([1, 2, 6, 12, 14, 15, 16, 63, 64, 65, 73, 74, 83], .done), ([1, 2, 6, 12, 14, 15, 63, 64, 65, 73, 74], .done), ([1, 2, 6, 12, 14, 15, 63, 64, 65, 73, 74], .done), ([1, 2, 6, 12, 63, 64, 65], .done), ([1, 2, 6, 12, 63, 64, 65], .done), ([6, 7], .done)]

noncomputable def x_r19_Subst : Cx := ⟨Tryd.prog, 42, Tryd.f42, 99, [300017, 300027, 300060, 300063, 300070, 300082, 300089, 300090, 300092, 300095], [], [.c 6 (some 2), .t 7]⟩
theorem g_r19_Subst : Good x_r19_Subst := ⟨Tryd.func42, by kernel_rfl⟩
theorem rs_r19_Subst : x_r19_Subst.rs = [.c 6 (some 2), .t 7] := rfl
theorem k_r19_Subst : compC Tryd.prog 99 [300017, 300027, 300060, 300063, 300070, 300082, 300089, 300090, 300092, 300095] [] (Tryd.f42.body.getD .skip) t_r19_Subst = some (c_r19_Subst, []) := by kernel_rfl
theorem b_r19_Subst : Tryd.f42.body = some (Tryd.f42.body.getD .skip) := by kernel_rfl
theorem i_r19_Subst {args : List AV} {σ : Heap} {K : AV → Heap → Prop} (hl : args.length ≤ 99) (h : Run x_r19_Subst K [.code c_r19_Subst] (argF args) E σ) : ACalls Tryd.prog 42 args σ K :=
  acalls_of (cx := x_r19_Subst) g_r19_Subst b_r19_Subst Tryd.ntmps42 hl (compC_rc x_r19_Subst _ _ _ _ k_r19_Subst) h

/-! ### slices.ContainsFunc(()amortcost/api.Lin,amortcost/api.Lin) -/
def c_slices_ContainsFunc_api_Lin : C := (.seq (.reg [⟨some 4, .mv (.c (.d (.bool false))), none⟩] [0, 1])
   (.seq (.reg [⟨some 5, .mv (.t 0), none⟩,
        ⟨some 6, .mv (.t 1), none⟩,
        ⟨some 7, .call 98 [(.t 5), (.t 6)], none⟩,
        ⟨some 8, .bin .geq (.t 7) (.c (.d (.int .i64 0))), none⟩,
        ⟨some 4, .mv (.t 8), none⟩] [4])
    .ret))

def t_slices_ContainsFunc_api_Lin : List (List Nat × PT) := [([0, 1], .done), ([4], .done)]

noncomputable def x_slices_ContainsFunc_api_Lin : Cx := ⟨Tryd.prog, 74, Tryd.f74, 9, [], [], [.t 4]⟩
theorem g_slices_ContainsFunc_api_Lin : Good x_slices_ContainsFunc_api_Lin := ⟨Tryd.func74, by kernel_rfl⟩
theorem rs_slices_ContainsFunc_api_Lin : x_slices_ContainsFunc_api_Lin.rs = [.t 4] := rfl
theorem k_slices_ContainsFunc_api_Lin : compC Tryd.prog 9 [] [] (Tryd.f74.body.getD .skip) t_slices_ContainsFunc_api_Lin = some (c_slices_ContainsFunc_api_Lin, []) := by kernel_rfl
theorem b_slices_ContainsFunc_api_Lin : Tryd.f74.body = some (Tryd.f74.body.getD .skip) := by kernel_rfl
theorem i_slices_ContainsFunc_api_Lin {args : List AV} {σ : Heap} {K : AV → Heap → Prop} (hl : args.length ≤ 9) (h : Run x_slices_ContainsFunc_api_Lin K [.code c_slices_ContainsFunc_api_Lin] (argF args) E σ) : ACalls Tryd.prog 74 args σ K :=
  acalls_of (cx := x_slices_ContainsFunc_api_Lin) g_slices_ContainsFunc_api_Lin b_slices_ContainsFunc_api_Lin Tryd.ntmps74 hl (compC_rc x_slices_ContainsFunc_api_Lin _ _ _ _ k_slices_ContainsFunc_api_Lin) h

/-! ### amortcost/linear.Subst$1 -/
def c_linear_Subst_1 : C := (.seq (.reg [⟨some 1, .box (.t 0) false, none⟩,
       ⟨some 2, .mv (.c (.d (.bool false))), none⟩] [1])
   (.seq (.reg [⟨some 3, .ldl (.t 1) (some 2), none⟩,
        ⟨some 4, .call 35 [(.t 3)], none⟩,
        ⟨some 5, .un .not (.t 4), none⟩,
        ⟨some 2, .mv (.t 5), none⟩] [2])
    .ret))

def t_linear_Subst_1 : List (List Nat × PT) := [([1], .done), ([2], .done)]

noncomputable def x_linear_Subst_1 : Cx := ⟨Tryd.prog, 75, Tryd.f75, 6, [300003], [], [.t 2]⟩
theorem g_linear_Subst_1 : Good x_linear_Subst_1 := ⟨Tryd.func75, by kernel_rfl⟩
theorem rs_linear_Subst_1 : x_linear_Subst_1.rs = [.t 2] := rfl
theorem k_linear_Subst_1 : compC Tryd.prog 6 [300003] [] (Tryd.f75.body.getD .skip) t_linear_Subst_1 = some (c_linear_Subst_1, []) := by kernel_rfl
theorem b_linear_Subst_1 : Tryd.f75.body = some (Tryd.f75.body.getD .skip) := by kernel_rfl
theorem i_linear_Subst_1 {args : List AV} {σ : Heap} {K : AV → Heap → Prop} (hl : args.length ≤ 6) (h : Run x_linear_Subst_1 K [.code c_linear_Subst_1] (argF args) E σ) : ACalls Tryd.prog 75 args σ K :=
  acalls_of (cx := x_linear_Subst_1) g_linear_Subst_1 b_linear_Subst_1 Tryd.ntmps75 hl (compC_rc x_linear_Subst_1 _ _ _ _ k_linear_Subst_1) h

/-! ### amortcost/linear.repeated -/
def c_linear_repeated : C := (.seq (.reg [⟨some 2, .mv (.c (.d (.bool false))), none⟩] [0])
   (.seq (.reg [⟨some 4, .mv (.t 0), none⟩,
        ⟨some 5, .call 99 [(.t 4)], none⟩,
        ⟨some 3, .mv (.t 5), none⟩] [0, 3])
    (.seq (.reg [⟨some 6, .mv (.t 3), none⟩,
         ⟨some 7, .call 100 [(.t 6)], none⟩] [0, 3])
     (.seq (.reg [⟨some 8, .mv (.t 3), none⟩,
          ⟨some 9, .call 101 [(.t 8)], none⟩,
          ⟨some 10, .len (.t 9), none⟩,
          ⟨some 11, .mv (.t 0), none⟩,
          ⟨some 12, .len (.t 11), none⟩,
          ⟨some 13, .bin .lss (.t 10) (.t 12), none⟩,
          ⟨some 2, .mv (.t 13), none⟩] [2])
      .ret))))

def t_linear_repeated : List (List Nat × PT) := [([0], .done), ([0, 3], .done), ([0, 3], .done), ([2], .done)]

noncomputable def x_linear_repeated : Cx := ⟨Tryd.prog, 76, Tryd.f76, 14, [], [], [.t 2]⟩
theorem g_linear_repeated : Good x_linear_repeated := ⟨Tryd.func76, by kernel_rfl⟩
theorem rs_linear_repeated : x_linear_repeated.rs = [.t 2] := rfl
theorem k_linear_repeated : compC Tryd.prog 14 [] [] (Tryd.f76.body.getD .skip) t_linear_repeated = some (c_linear_repeated, []) := by kernel_rfl
theorem b_linear_repeated : Tryd.f76.body = some (Tryd.f76.body.getD .skip) := by kernel_rfl
theorem i_linear_repeated {args : List AV} {σ : Heap} {K : AV → Heap → Prop} (hl : args.length ≤ 14) (h : Run x_linear_repeated K [.code c_linear_repeated] (argF args) E σ) : ACalls Tryd.prog 76 args σ K :=
  acalls_of (cx := x_linear_repeated) g_linear_repeated b_linear_repeated Tryd.ntmps76 hl (compC_rc x_linear_repeated _ _ _ _ k_linear_repeated) h

/-! ### slices.Index(()int,int) -/
/- slots of c_slices_Index_int_L0 : [0, 1, 7, 8] -/
def c_slices_Index_int_L0 : C := (.seq (.reg [⟨some 9, .bin .lss (.t 8) (.t 7), none⟩] [0, 1, 7, 8, 9])
   (.seq (.cond (.t 9) .skip
     (.exit 0))
    (.seq (.block 1 (.seq (.reg [⟨some 10, .mv (.t 8), none⟩,
           ⟨some 5, .mv (.t 10), none⟩] [0, 1, 5, 7, 8])
       (.seq (.reg [⟨some 11, .mv (.t 1), none⟩,
            ⟨some 12, .mv (.t 0), none⟩,
            ⟨some 13, .mv (.t 5), none⟩,
            ⟨some 14, .ix (.t 12) (.t 13) 1, none⟩,
            ⟨some 15, .ld (.t 14) none, none⟩,
            ⟨some 16, .bin .eql (.t 11) (.t 15), none⟩] [0, 1, 5, 7, 8, 16])
        (.cond (.t 16) (.seq (.reg [⟨some 17, .mv (.t 5), none⟩,
              ⟨some 4, .mv (.t 17), none⟩] [4])
          .ret)
         .skip))))
     (.reg [⟨some 18, .bin .add (.t 8) (.c (.d (.int .i64 1))), none⟩,
         ⟨some 8, .mv (.t 18), none⟩] [0, 1, 7, 8]))))

def c_slices_Index_int : C := (.seq (.reg [⟨some 4, .mv (.c (.d (.int .i64 0))), none⟩] [0, 1])
   (.seq (.seq (.reg [⟨some 6, .mv (.t 0), none⟩,
         ⟨some 7, .len (.t 6), none⟩,
         ⟨some 8, .mv (.c (.d (.int .i64 0))), none⟩] [0, 1, 7, 8])
     (.block 0 (.loop c_slices_Index_int_L0)))
    (.seq (.reg [⟨some 4, .mv (.c (.d (.int .i64 (-1)))), none⟩] [4])
     .ret)))

def t_slices_Index_int : List (List Nat × PT) := [([0, 1], .done), ([0, 1, 7, 8], .done), ([0, 1, 7, 8, 9], .done), ([0, 1, 5, 7, 8], .done), ([0, 1, 5, 7, 8, 16], .done), ([4], .done), ([0, 1, 7, 8], .done), ([4], .done)]

noncomputable def x_slices_Index_int : Cx := ⟨Tryd.prog, 77, Tryd.f77, 19, [], [], [.t 4]⟩
theorem g_slices_Index_int : Good x_slices_Index_int := ⟨Tryd.func77, by kernel_rfl⟩
theorem rs_slices_Index_int : x_slices_Index_int.rs = [.t 4] := rfl
theorem k_slices_Index_int : compC Tryd.prog 19 [] [] (Tryd.f77.body.getD .skip) t_slices_Index_int = some (c_slices_Index_int, []) := by kernel_rfl
theorem b_slices_Index_int : Tryd.f77.body = some (Tryd.f77.body.getD .skip) := by kernel_rfl
theorem i_slices_Index_int {args : List AV} {σ : Heap} {K : AV → Heap → Prop} (hl : args.length ≤ 19) (h : Run x_slices_Index_int K [.code c_slices_Index_int] (argF args) E σ) : ACalls Tryd.prog 77 args σ K :=
  acalls_of (cx := x_slices_Index_int) g_slices_Index_int b_slices_Index_int Tryd.ntmps77 hl (compC_rc x_slices_Index_int _ _ _ _ k_slices_Index_int) h

/-! ### slices.IndexFunc(()amortcost/api.Lin,amortcost/api.Lin) -/
/- slots of c_slices_IndexFunc_api_Lin_L0 : [0, 1, 7, 8] -/
def c_slices_IndexFunc_api_Lin_L0 : C := (.seq (.reg [⟨some 9, .bin .lss (.t 8) (.t 7), none⟩] [0, 1, 7, 8, 9])
   (.seq (.cond (.t 9) .skip
     (.exit 0))
    (.seq (.block 1 (.seq (.reg [⟨some 10, .mv (.t 8), none⟩,
           ⟨some 5, .mv (.t 10), none⟩] [0, 1, 5, 7, 8])
       (.seq (.reg [⟨some 11, .mv (.t 1), none⟩,
            ⟨some 12, .mv (.t 0), none⟩,
            ⟨some 13, .mv (.t 5), none⟩,
            ⟨some 14, .ix (.t 12) (.t 13) 2, none⟩,
            ⟨some 15, .ld (.t 14) (some 2), none⟩,
            ⟨some 16, .callv (.t 11) [(.t 15)], none⟩] [0, 1, 5, 7, 8, 16])
        (.cond (.t 16) (.seq (.reg [⟨some 17, .mv (.t 5), none⟩,
              ⟨some 4, .mv (.t 17), none⟩] [4])
          .ret)
         .skip))))
     (.reg [⟨some 18, .bin .add (.t 8) (.c (.d (.int .i64 1))), none⟩,
         ⟨some 8, .mv (.t 18), none⟩] [0, 1, 7, 8]))))

def c_slices_IndexFunc_api_Lin : C := (.seq (.reg [⟨some 4, .mv (.c (.d (.int .i64 0))), none⟩] [0, 1])
   (.seq (.seq (.reg [⟨some 6, .mv (.t 0), none⟩,
         ⟨some 7, .len (.t 6), none⟩,
         ⟨some 8, .mv (.c (.d (.int .i64 0))), none⟩] [0, 1, 7, 8])
     (.block 0 (.loop c_slices_IndexFunc_api_Lin_L0)))
    (.seq (.reg [⟨some 4, .mv (.c (.d (.int .i64 (-1)))), none⟩] [4])
     .ret)))

def t_slices_IndexFunc_api_Lin : List (List Nat × PT) := [([0, 1], .done), ([0, 1, 7, 8], .done), ([0, 1, 7, 8, 9], .done), ([0, 1, 5, 7, 8], .done), ([0, 1, 5, 7, 8, 16], .done), ([4], .done), ([0, 1, 7, 8], .done), ([4], .done)]

noncomputable def x_slices_IndexFunc_api_Lin : Cx := ⟨Tryd.prog, 98, Tryd.f98, 19, [], [], [.t 4]⟩
theorem g_slices_IndexFunc_api_Lin : Good x_slices_IndexFunc_api_Lin := ⟨Tryd.func98, by kernel_rfl⟩
theorem rs_slices_IndexFunc_api_Lin : x_slices_IndexFunc_api_Lin.rs = [.t 4] := rfl
theorem k_slices_IndexFunc_api_Lin : compC Tryd.prog 19 [] [] (Tryd.f98.body.getD .skip) t_slices_IndexFunc_api_Lin = some (c_slices_IndexFunc_api_Lin, []) := by kernel_rfl
theorem b_slices_IndexFunc_api_Lin : Tryd.f98.body = some (Tryd.f98.body.getD .skip) := by kernel_rfl
theorem i_slices_IndexFunc_api_Lin {args : List AV} {σ : Heap} {K : AV → Heap → Prop} (hl : args.length ≤ 19) (h : Run x_slices_IndexFunc_api_Lin K [.code c_slices_IndexFunc_api_Lin] (argF args) E σ) : ACalls Tryd.prog 98 args σ K :=
  acalls_of (cx := x_slices_IndexFunc_api_Lin) g_slices_IndexFunc_api_Lin b_slices_IndexFunc_api_Lin Tryd.ntmps98 hl (compC_rc x_slices_IndexFunc_api_Lin _ _ _ _ k_slices_IndexFunc_api_Lin) h

/-! ### slices.Clone(()int,int) -/
def c_slices_Clone_int : C := (.seq (.reg [⟨some 2, .mv (.c .nils), none⟩] [0])
   (.seq (.seq (.reg [⟨some 3, .mv (.t 0), none⟩,
         ⟨some 4, .ex (.snil false) [(.t 3)], none⟩] [0, 4])
     (.cond (.t 4) (.seq (.reg [⟨some 2, .mv (.c .nils), none⟩] [2])
       .ret)
      .skip))
    (.seq (.reg [⟨some 5, .bslm 3 1 0 [] [], none⟩,
         ⟨some 6, .mv (.t 0), none⟩,
         ⟨some 7, .appm 3 1 8 (.t 5) (.t 6), none⟩,
         ⟨some 2, .mv (.t 7), none⟩] [2])
     .ret)))

def t_slices_Clone_int : List (List Nat × PT) := [([0], .done), ([0, 4], .done), ([2], .done), ([2], .done)]

noncomputable def x_slices_Clone_int : Cx := ⟨Tryd.prog, 99, Tryd.f99, 8, [5, 7], [], [.t 2]⟩
theorem g_slices_Clone_int : Good x_slices_Clone_int := ⟨Tryd.func99, by kernel_rfl⟩
theorem rs_slices_Clone_int : x_slices_Clone_int.rs = [.t 2] := rfl
theorem k_slices_Clone_int : compC Tryd.prog 8 [5, 7] [] (Tryd.f99.body.getD .skip) t_slices_Clone_int = some (c_slices_Clone_int, []) := by kernel_rfl
theorem b_slices_Clone_int : Tryd.f99.body = some (Tryd.f99.body.getD .skip) := by kernel_rfl
theorem i_slices_Clone_int {args : List AV} {σ : Heap} {K : AV → Heap → Prop} (hl : args.length ≤ 8) (h : Run x_slices_Clone_int K [.code c_slices_Clone_int] (argF args) E σ) : ACalls Tryd.prog 99 args σ K :=
  acalls_of (cx := x_slices_Clone_int) g_slices_Clone_int b_slices_Clone_int Tryd.ntmps99 hl (compC_rc x_slices_Clone_int _ _ _ _ k_slices_Clone_int) h

/-! ### slices.Compact(()int,int) -/
/- slots of c_slices_Compact_int_L0 : [0, 3, 4, 5] -/
def c_slices_Compact_int_L0 : C := (.seq (.seq (.reg [⟨some 29, .mv (.t 5), none⟩,
        ⟨some 30, .mv (.t 4), none⟩,
        ⟨some 31, .len (.t 30), none⟩,
        ⟨some 32, .bin .lss (.t 29) (.t 31), none⟩] [0, 3, 4, 5, 32])
    (.cond (.t 32) .skip
     (.exit 2)))
   (.seq (.block 3 (.seq (.reg [⟨some 35, .mv (.t 4), none⟩,
          ⟨some 36, .mv (.t 5), none⟩,
          ⟨some 37, .ix (.t 35) (.t 36) 1, none⟩,
          ⟨some 38, .ld (.t 37) none, none⟩,
          ⟨some 39, .mv (.t 4), none⟩,
          ⟨some 40, .mv (.t 5), none⟩,
          ⟨some 41, .bin .sub (.t 40) (.c (.d (.int .i64 1))), none⟩,
          ⟨some 42, .ix (.t 39) (.t 41) 1, none⟩,
          ⟨some 43, .ld (.t 42) none, none⟩,
          ⟨some 44, .bin .neq (.t 38) (.t 43), none⟩] [0, 3, 4, 5, 44])
      (.cond (.t 44) (.seq (.reg [⟨some 45, .mv (.t 0), none⟩,
            ⟨some 46, .mv (.t 3), none⟩,
            ⟨some 47, .mv (.t 4), none⟩,
            ⟨some 48, .mv (.t 5), none⟩,
            ⟨some 49, .ix (.t 47) (.t 48) 1, none⟩,
            ⟨some 50, .ld (.t 49) none, none⟩,
            ⟨some 51, .ix (.t 45) (.t 46) 1, none⟩,
            ⟨none, .st (.t 51) (.t 50) 1, none⟩] [0, 3, 4, 5])
        (.reg [⟨some 52, .mv (.t 3), none⟩,
            ⟨some 53, .bin .add (.t 52) (.c (.d (.int .i64 1))), none⟩,
            ⟨some 3, .mv (.t 53), none⟩] [0, 3, 4, 5]))
       .skip)))
    (.reg [⟨some 33, .mv (.t 5), none⟩,
        ⟨some 34, .bin .add (.t 33) (.c (.d (.int .i64 1))), none⟩,
        ⟨some 5, .mv (.t 34), none⟩] [0, 3, 4, 5])))

/- slots of c_slices_Compact_int_L1 : [0, 3] -/
def c_slices_Compact_int_L1 : C := (.seq (.seq (.reg [⟨some 10, .mv (.t 3), none⟩,
        ⟨some 11, .mv (.t 0), none⟩,
        ⟨some 12, .len (.t 11), none⟩,
        ⟨some 13, .bin .lss (.t 10) (.t 12), none⟩] [0, 3, 13])
    (.cond (.t 13) .skip
     (.exit 0)))
   (.seq (.block 1 (.seq (.reg [⟨some 16, .mv (.t 0), none⟩,
          ⟨some 17, .mv (.t 3), none⟩,
          ⟨some 18, .ix (.t 16) (.t 17) 1, none⟩,
          ⟨some 19, .ld (.t 18) none, none⟩,
          ⟨some 20, .mv (.t 0), none⟩,
          ⟨some 21, .mv (.t 3), none⟩,
          ⟨some 22, .bin .sub (.t 21) (.c (.d (.int .i64 1))), none⟩,
          ⟨some 23, .ix (.t 20) (.t 22) 1, none⟩,
          ⟨some 24, .ld (.t 23) none, none⟩,
          ⟨some 25, .bin .eql (.t 19) (.t 24), none⟩] [0, 3, 25])
      (.cond (.t 25) (.seq (.reg [⟨some 26, .mv (.t 0), none⟩,
            ⟨some 27, .mv (.t 3), none⟩,
            ⟨some 28, .sls (.t 26) (some (.t 27)) none none 1, none⟩,
            ⟨some 4, .mv (.t 28), none⟩] [0, 3, 4])
        (.seq (.seq (.reg [⟨some 5, .mv (.c (.d (.int .i64 1))), none⟩] [0, 3, 4, 5])
          (.block 2 (.loop c_slices_Compact_int_L0)))
         (.seq (.reg [⟨some 54, .mv (.t 0), none⟩,
              ⟨some 55, .mv (.t 3), none⟩,
              ⟨some 56, .sls (.t 54) (some (.t 55)) none none 1, none⟩,
              ⟨none, .ex (.clr [(.d (.int .i64 0))]) [(.t 56)], none⟩] [0, 3])
          (.seq (.reg [⟨some 57, .mv (.t 0), none⟩,
               ⟨some 58, .mv (.t 3), none⟩,
               ⟨some 59, .sls (.t 57) none (some (.t 58)) none 1, none⟩,
               ⟨some 2, .mv (.t 59), none⟩] [2])
           .ret))))
       .skip)))
    (.reg [⟨some 14, .mv (.t 3), none⟩,
        ⟨some 15, .bin .add (.t 14) (.c (.d (.int .i64 1))), none⟩,
        ⟨some 3, .mv (.t 15), none⟩] [0, 3])))

def c_slices_Compact_int : C := (.seq (.reg [⟨some 2, .mv (.c .nils), none⟩] [0])
   (.seq (.seq (.reg [⟨some 6, .mv (.t 0), none⟩,
         ⟨some 7, .len (.t 6), none⟩,
         ⟨some 8, .bin .lss (.t 7) (.c (.d (.int .i64 2))), none⟩] [0, 8])
     (.cond (.t 8) (.seq (.reg [⟨some 9, .mv (.t 0), none⟩,
           ⟨some 2, .mv (.t 9), none⟩] [2])
       .ret)
      .skip))
    (.seq (.seq (.reg [⟨some 3, .mv (.c (.d (.int .i64 1))), none⟩] [0, 3])
      (.block 0 (.loop c_slices_Compact_int_L1)))
     (.seq (.reg [⟨some 60, .mv (.t 0), none⟩,
          ⟨some 2, .mv (.t 60), none⟩] [2])
      .ret))))

def t_slices_Compact_int : List (List Nat × PT) := [([0], .done), ([0, 8], .done), ([2], .done), ([0, 3], .done), ([0, 3, 13], .done), ([0, 3, 25], .done), ([0, 3, 4], .done), ([0, 3, 4, 5], .done), ([0, 3, 4, 5, 32], .done), ([0, 3, 4, 5, 44], .done), ([0, 3, 4, 5], .done), ([0, 3, 4, 5], .done), ([0, 3, 4, 5], .done), ([0, 3], .done), ([2], .done), ([0, 3], .done), ([2], .done)]

noncomputable def x_slices_Compact_int : Cx := ⟨Tryd.prog, 101, Tryd.f101, 61, [], [], [.t 2]⟩
theorem g_slices_Compact_int : Good x_slices_Compact_int := ⟨Tryd.func101, by kernel_rfl⟩
theorem rs_slices_Compact_int : x_slices_Compact_int.rs = [.t 2] := rfl
theorem k_slices_Compact_int : compC Tryd.prog 61 [] [] (Tryd.f101.body.getD .skip) t_slices_Compact_int = some (c_slices_Compact_int, []) := by kernel_rfl
theorem b_slices_Compact_int : Tryd.f101.body = some (Tryd.f101.body.getD .skip) := by kernel_rfl
theorem i_slices_Compact_int {args : List AV} {σ : Heap} {K : AV → Heap → Prop} (hl : args.length ≤ 61) (h : Run x_slices_Compact_int K [.code c_slices_Compact_int] (argF args) E σ) : ACalls Tryd.prog 101 args σ K :=
  acalls_of (cx := x_slices_Compact_int) g_slices_Compact_int b_slices_Compact_int Tryd.ntmps101 hl (compC_rc x_slices_Compact_int _ _ _ _ k_slices_Compact_int) h

/-! ### slices.Sort(()int,int) -/
def c_slices_Sort_int : C := (.seq (.reg [⟨some 3, .mv (.t 0), none⟩,
       ⟨some 4, .len (.t 3), none⟩,
       ⟨some 2, .mv (.t 4), none⟩] [0, 2])
   (.reg [⟨some 5, .mv (.t 0), none⟩,
       ⟨some 6, .mv (.t 2), none⟩,
       ⟨some 7, .mv (.t 2), none⟩,
       ⟨some 8, .conv .u64 (.t 7), none⟩,
       ⟨some 9, .call 110 [(.t 8)], none⟩,
       ⟨some 10, .call 115 [(.t 5), (.c (.d (.int .i64 0))), (.t 6), (.t 9)], none⟩] []))

def t_slices_Sort_int : List (List Nat × PT) := [([0, 2], .done), ([], .done)]

noncomputable def x_slices_Sort_int : Cx := ⟨Tryd.prog, 100, Tryd.f100, 11, [], [], []⟩
theorem g_slices_Sort_int : Good x_slices_Sort_int := ⟨Tryd.func100, by kernel_rfl⟩
theorem rs_slices_Sort_int : x_slices_Sort_int.rs = [] := rfl
theorem k_slices_Sort_int : compC Tryd.prog 11 [] [] (Tryd.f100.body.getD .skip) t_slices_Sort_int = some (c_slices_Sort_int, []) := by kernel_rfl
theorem b_slices_Sort_int : Tryd.f100.body = some (Tryd.f100.body.getD .skip) := by kernel_rfl
theorem i_slices_Sort_int {args : List AV} {σ : Heap} {K : AV → Heap → Prop} (hl : args.length ≤ 11) (h : Run x_slices_Sort_int K [.code c_slices_Sort_int] (argF args) E σ) : ACalls Tryd.prog 100 args σ K :=
  acalls_of (cx := x_slices_Sort_int) g_slices_Sort_int b_slices_Sort_int Tryd.ntmps100 hl (compC_rc x_slices_Sort_int _ _ _ _ k_slices_Sort_int) h

/-! ### slices.pdqsortOrdered(int) -/
/- slots of c_slices_pdqsortOrdered_int_L0 : [0, 1, 2, 3, 8, 9] -/
def c_slices_pdqsortOrdered_int_L0 : C := (.block 1 (.seq (.reg [⟨some 19, .mv (.t 2), none⟩,
        ⟨some 20, .mv (.t 1), none⟩,
        ⟨some 21, .bin .sub (.t 19) (.t 20), none⟩,
        ⟨some 10, .mv (.t 21), none⟩] [0, 1, 2, 3, 8, 9, 10])
    (.seq (.seq (.reg [⟨some 22, .mv (.t 10), none⟩,
          ⟨some 23, .bin .leq (.t 22) (.c (.d (.int .i64 12))), none⟩] [0, 1, 2, 3, 8, 9, 10, 23])
      (.cond (.t 23) (.seq (.reg [⟨some 24, .mv (.t 0), none⟩,
            ⟨some 25, .mv (.t 1), none⟩,
            ⟨some 26, .mv (.t 2), none⟩,
            ⟨some 27, .call 133 [(.t 24), (.t 25), (.t 26)], none⟩] [])
        .ret)
       .skip))
     (.seq (.seq (.reg [⟨some 28, .mv (.t 3), none⟩,
           ⟨some 29, .bin .eql (.t 28) (.c (.d (.int .i64 0))), none⟩] [0, 1, 2, 3, 8, 9, 10, 29])
       (.cond (.t 29) (.seq (.reg [⟨some 30, .mv (.t 0), none⟩,
             ⟨some 31, .mv (.t 1), none⟩,
             ⟨some 32, .mv (.t 2), none⟩,
             ⟨some 33, .call 134 [(.t 30), (.t 31), (.t 32)], none⟩] [])
         .ret)
        .skip))
      (.seq (.seq (.reg [⟨some 34, .mv (.t 8), none⟩,
            ⟨some 35, .un .not (.t 34), none⟩] [0, 1, 2, 3, 8, 9, 10, 35])
        (.cond (.t 35) (.seq (.reg [⟨some 36, .mv (.t 0), none⟩,
              ⟨some 37, .mv (.t 1), none⟩,
              ⟨some 38, .mv (.t 2), none⟩,
              ⟨some 39, .call 135 [(.t 36), (.t 37), (.t 38)], none⟩] [0, 1, 2, 3, 8, 9, 10])
          (.reg [⟨some 40, .mv (.t 3), none⟩,
              ⟨some 41, .bin .sub (.t 40) (.c (.d (.int .i64 1))), none⟩,
              ⟨some 3, .mv (.t 41), none⟩] [0, 1, 2, 3, 8, 9, 10]))
         .skip))
       (.seq (.reg [⟨some 43, .mv (.t 0), none⟩,
            ⟨some 44, .mv (.t 1), none⟩,
            ⟨some 45, .mv (.t 2), none⟩,
            ⟨some 46, .call 136 [(.t 43), (.t 44), (.t 45)], none⟩,
            ⟨some 42, .mv (.t 46), none⟩,
            ⟨some 47, .ext (.t 42) 0, none⟩,
            ⟨some 48, .ext (.t 42) 1, none⟩,
            ⟨some 11, .mv (.t 47), none⟩,
            ⟨some 12, .mv (.t 48), none⟩] [0, 1, 2, 3, 8, 9, 10, 11, 12])
        (.seq (.seq (.reg [⟨some 49, .mv (.t 12), none⟩,
              ⟨some 50, .bin .eql (.t 49) (.c (.d (.int .i64 2))), none⟩] [0, 1, 2, 3, 8, 9, 10, 11, 12, 50])
          (.cond (.t 50) (.seq (.reg [⟨some 51, .mv (.t 0), none⟩,
                ⟨some 52, .mv (.t 1), none⟩,
                ⟨some 53, .mv (.t 2), none⟩,
                ⟨some 54, .call 137 [(.t 51), (.t 52), (.t 53)], none⟩] [0, 1, 2, 3, 8, 9, 10, 11])
            (.seq (.reg [⟨some 55, .mv (.t 2), none⟩,
                 ⟨some 56, .bin .sub (.t 55) (.c (.d (.int .i64 1))), none⟩,
                 ⟨some 57, .mv (.t 11), none⟩,
                 ⟨some 58, .mv (.t 1), none⟩,
                 ⟨some 59, .bin .sub (.t 57) (.t 58), none⟩,
                 ⟨some 60, .bin .sub (.t 56) (.t 59), none⟩,
                 ⟨some 11, .mv (.t 60), none⟩] [0, 1, 2, 3, 8, 9, 10, 11])
             (.reg [⟨some 12, .mv (.c (.d (.int .i64 1))), none⟩] [0, 1, 2, 3, 8, 9, 10, 11, 12])))
           .skip))
         (.seq (.seq (.reg [⟨some 61, .mv (.t 8), none⟩,
               ⟨some 62, .mv (.t 61), none⟩,
               ⟨some 63, .mv (.t 9), some (62, true)⟩,
               ⟨some 64, .pick (.t 62) (.t 63) (.c (.d (.bool false))), none⟩,
               ⟨some 65, .mv (.t 64), none⟩,
               ⟨some 66, .mv (.t 12), some (65, true)⟩,
               ⟨some 67, .bin .eql (.t 66) (.c (.d (.int .i64 1))), some (65, true)⟩,
               ⟨some 68, .pick (.t 65) (.t 67) (.c (.d (.bool false))), none⟩] [0, 1, 2, 3, 8, 9, 10, 11, 68])
           (.cond (.t 68) (.seq (.reg [⟨some 69, .mv (.t 0), none⟩,
                 ⟨some 70, .mv (.t 1), none⟩,
                 ⟨some 71, .mv (.t 2), none⟩,
                 ⟨some 72, .call 138 [(.t 69), (.t 70), (.t 71)], none⟩] [0, 1, 2, 3, 8, 9, 10, 11, 72])
             (.cond (.t 72) .ret
              .skip))
            .skip))
          (.seq (.seq (.reg [⟨some 73, .mv (.t 1), none⟩,
                ⟨some 74, .bin .gtr (.t 73) (.c (.d (.int .i64 0))), none⟩,
                ⟨some 75, .mv (.t 74), none⟩,
                ⟨some 76, .mv (.t 0), some (75, true)⟩,
                ⟨some 77, .mv (.t 1), some (75, true)⟩,
                ⟨some 78, .bin .sub (.t 77) (.c (.d (.int .i64 1))), some (75, true)⟩,
                ⟨some 79, .ix (.t 76) (.t 78) 1, some (75, true)⟩,
                ⟨some 80, .ld (.t 79) none, some (75, true)⟩,
                ⟨some 81, .mv (.t 0), some (75, true)⟩,
                ⟨some 82, .mv (.t 11), some (75, true)⟩,
                ⟨some 83, .ix (.t 81) (.t 82) 1, some (75, true)⟩,
                ⟨some 84, .ld (.t 83) none, some (75, true)⟩,
                ⟨some 85, .call 139 [(.t 80), (.t 84)], some (75, true)⟩,
                ⟨some 86, .un .not (.t 85), some (75, true)⟩,
                ⟨some 87, .pick (.t 75) (.t 86) (.c (.d (.bool false))), none⟩] [0, 1, 2, 3, 8, 9, 10, 11, 87])
            (.cond (.t 87) (.seq (.reg [⟨some 88, .mv (.t 0), none⟩,
                  ⟨some 89, .mv (.t 1), none⟩,
                  ⟨some 90, .mv (.t 2), none⟩,
                  ⟨some 91, .mv (.t 11), none⟩,
                  ⟨some 92, .call 140 [(.t 88), (.t 89), (.t 90), (.t 91)], none⟩,
                  ⟨some 13, .mv (.t 92), none⟩] [0, 2, 3, 8, 9, 13])
              (.seq (.reg [⟨some 93, .mv (.t 13), none⟩,
                   ⟨some 1, .mv (.t 93), none⟩] [0, 1, 2, 3, 8, 9])
               (.exit 1)))
             .skip))
           (.seq (.reg [⟨some 95, .mv (.t 0), none⟩,
                ⟨some 96, .mv (.t 1), none⟩,
                ⟨some 97, .mv (.t 2), none⟩,
                ⟨some 98, .mv (.t 11), none⟩,
                ⟨some 99, .call 141 [(.t 95), (.t 96), (.t 97), (.t 98)], none⟩,
                ⟨some 94, .mv (.t 99), none⟩,
                ⟨some 100, .ext (.t 94) 0, none⟩,
                ⟨some 101, .ext (.t 94) 1, none⟩,
                ⟨some 14, .mv (.t 100), none⟩,
                ⟨some 15, .mv (.t 101), none⟩] [0, 1, 2, 3, 10, 14, 15])
            (.seq (.reg [⟨some 102, .mv (.t 15), none⟩,
                 ⟨some 9, .mv (.t 102), none⟩] [0, 1, 2, 3, 9, 10, 14])
             (.seq (.reg [⟨some 103, .mv (.t 14), none⟩,
                  ⟨some 104, .mv (.t 1), none⟩,
                  ⟨some 105, .bin .sub (.t 103) (.t 104), none⟩,
                  ⟨some 106, .mv (.t 2), none⟩,
                  ⟨some 107, .mv (.t 14), none⟩,
                  ⟨some 108, .bin .sub (.t 106) (.t 107), none⟩,
                  ⟨some 16, .mv (.t 105), none⟩,
                  ⟨some 17, .mv (.t 108), none⟩] [0, 1, 2, 3, 9, 10, 14, 16, 17])
              (.seq (.reg [⟨some 109, .mv (.t 10), none⟩,
                   ⟨some 110, .bin .quo (.t 109) (.c (.d (.int .i64 8))), none⟩,
                   ⟨some 18, .mv (.t 110), none⟩] [0, 1, 2, 3, 9, 14, 16, 17, 18])
               (.seq (.reg [⟨some 111, .mv (.t 16), none⟩,
                    ⟨some 112, .mv (.t 17), none⟩,
                    ⟨some 113, .bin .lss (.t 111) (.t 112), none⟩] [0, 1, 2, 3, 9, 14, 16, 17, 18, 113])
                (.cond (.t 113) (.seq (.reg [⟨some 114, .mv (.t 16), none⟩,
                      ⟨some 115, .mv (.t 18), none⟩,
                      ⟨some 116, .bin .geq (.t 114) (.t 115), none⟩,
                      ⟨some 8, .mv (.t 116), none⟩] [0, 1, 2, 3, 8, 9, 14])
                  (.seq (.reg [⟨some 117, .mv (.t 0), none⟩,
                       ⟨some 118, .mv (.t 1), none⟩,
                       ⟨some 119, .mv (.t 14), none⟩,
                       ⟨some 120, .mv (.t 3), none⟩,
                       ⟨some 121, .call 115 [(.t 117), (.t 118), (.t 119), (.t 120)], none⟩] [0, 2, 3, 8, 9, 14])
                   (.reg [⟨some 122, .mv (.t 14), none⟩,
                       ⟨some 123, .bin .add (.t 122) (.c (.d (.int .i64 1))), none⟩,
                       ⟨some 1, .mv (.t 123), none⟩] [0, 1, 2, 3, 8, 9])))
                 (.seq (.reg [⟨some 124, .mv (.t 17), none⟩,
                      ⟨some 125, .mv (.t 18), none⟩,
                      ⟨some 126, .bin .geq (.t 124) (.t 125), none⟩,
                      ⟨some 8, .mv (.t 126), none⟩] [0, 1, 2, 3, 8, 9, 14])
                  (.seq (.reg [⟨some 127, .mv (.t 0), none⟩,
                       ⟨some 128, .mv (.t 14), none⟩,
                       ⟨some 129, .bin .add (.t 128) (.c (.d (.int .i64 1))), none⟩,
                       ⟨some 130, .mv (.t 2), none⟩,
                       ⟨some 131, .mv (.t 3), none⟩,
                       ⟨some 132, .call 115 [(.t 127), (.t 129), (.t 130), (.t 131)], none⟩] [0, 1, 3, 8, 9, 14])
                   (.reg [⟨some 133, .mv (.t 14), none⟩,
                       ⟨some 2, .mv (.t 133), none⟩] [0, 1, 2, 3, 8, 9]))))))))))))))))))

def c_slices_pdqsortOrdered_int : C := (.seq (.reg [⟨some 8, .mv (.c (.d (.bool true))), none⟩] [0, 1, 2, 3, 8])
   (.seq (.reg [⟨some 9, .mv (.c (.d (.bool true))), none⟩] [0, 1, 2, 3, 8, 9])
    (.block 0 (.loop c_slices_pdqsortOrdered_int_L0))))

def t_slices_pdqsortOrdered_int : List (List Nat × PT) := [([0, 1, 2, 3, 8], .done), ([0, 1, 2, 3, 8, 9], .done), ([0, 1, 2, 3, 8, 9, 10], .done), ([0, 1, 2, 3, 8, 9, 10, 23], .done), ([], .done), ([0, 1, 2, 3, 8, 9, 10, 29], .done), ([], .done), ([0, 1, 2, 3, 8, 9, 10, 35], .done), ([0, 1, 2, 3, 8, 9, 10], .done), ([0, 1, 2, 3, 8, 9, 10], .done), ([0, 1, 2, 3, 8, 9, 10, 11, 12], .done), ([0, 1, 2, 3, 8, 9, 10, 11, 12, 50], .done), ([0, 1, 2, 3, 8, 9, 10, 11], .done), ([0, 1, 2, 3, 8, 9, 10, 11], .done), ([0, 1, 2, 3, 8, 9, 10, 11, 12], .done), ([0, 1, 2, 3, 8, 9, 10, 11, 68], .done), ([0, 1, 2, 3, 8, 9, 10, 11, 72], .done), ([0, 1, 2, 3, 8, 9, 10, 11, 87], .done), ([0, 2, 3, 8, 9, 13], .done), ([0, 1, 2, 3, 8, 9], .done), ([0, 1, 2, 3, 10, 14, 15], .done), ([0, 1, 2, 3, 9, 10, 14], .done), ([0, 1, 2, 3, 9, 10, 14, 16, 17], .done), ([0, 1, 2, 3, 9, 14, 16, 17, 18], .done), ([0, 1, 2, 3, 9, 14, 16, 17, 18, 113], .done), ([0, 1, 2, 3, 8, 9, 14], .done), ([0, 2, 3, 8, 9, 14], .done), ([0, 1, 2, 3, 8, 9], .done), ([0, 1, 2, 3, 8, 9, 14], .done), ([0, 1, 3, 8, 9, 14], .done), ([0, 1, 2, 3, 8, 9], .done)]

noncomputable def x_slices_pdqsortOrdered_int : Cx := ⟨Tryd.prog, 115, Tryd.f115, 134, [], [], []⟩
theorem g_slices_pdqsortOrdered_int : Good x_slices_pdqsortOrdered_int := ⟨Tryd.func115, by kernel_rfl⟩
theorem rs_slices_pdqsortOrdered_int : x_slices_pdqsortOrdered_int.rs = [] := rfl
theorem k_slices_pdqsortOrdered_int : compC Tryd.prog 134 [] [] (Tryd.f115.body.getD .skip) t_slices_pdqsortOrdered_int = some (c_slices_pdqsortOrdered_int, []) := by kernel_rfl
theorem b_slices_pdqsortOrdered_int : Tryd.f115.body = some (Tryd.f115.body.getD .skip) := by kernel_rfl
theorem i_slices_pdqsortOrdered_int {args : List AV} {σ : Heap} {K : AV → Heap → Prop} (hl : args.length ≤ 134) (h : Run x_slices_pdqsortOrdered_int K [.code c_slices_pdqsortOrdered_int] (argF args) E σ) : ACalls Tryd.prog 115 args σ K :=
  acalls_of (cx := x_slices_pdqsortOrdered_int) g_slices_pdqsortOrdered_int b_slices_pdqsortOrdered_int Tryd.ntmps115 hl (compC_rc x_slices_pdqsortOrdered_int _ _ _ _ k_slices_pdqsortOrdered_int) h

/-! ### slices.insertionSortOrdered(int) -/
/- slots of c_slices_insertionSortOrdered_int_L0 : [0, 1, 2, 6, 7] -/
def c_slices_insertionSortOrdered_int_L0 : C := (.seq (.seq (.reg [⟨some 16, .mv (.t 7), none⟩,
        ⟨some 17, .mv (.t 1), none⟩,
        ⟨some 18, .bin .gtr (.t 16) (.t 17), none⟩,
        ⟨some 19, .mv (.t 18), none⟩,
        ⟨some 20, .mv (.t 0), some (19, true)⟩,
        ⟨some 21, .mv (.t 7), some (19, true)⟩,
        ⟨some 22, .ix (.t 20) (.t 21) 1, some (19, true)⟩,
        ⟨some 23, .ld (.t 22) none, some (19, true)⟩,
        ⟨some 24, .mv (.t 0), some (19, true)⟩,
        ⟨some 25, .mv (.t 7), some (19, true)⟩,
        ⟨some 26, .bin .sub (.t 25) (.c (.d (.int .i64 1))), some (19, true)⟩,
        ⟨some 27, .ix (.t 24) (.t 26) 1, some (19, true)⟩,
        ⟨some 28, .ld (.t 27) none, some (19, true)⟩,
        ⟨some 29, .call 139 [(.t 23), (.t 28)], some (19, true)⟩,
        ⟨some 30, .pick (.t 19) (.t 29) (.c (.d (.bool false))), none⟩] [0, 1, 2, 6, 7, 30])
    (.cond (.t 30) .skip
     (.exit 2)))
   (.seq (.block 3 (.reg [⟨some 33, .mv (.t 0), none⟩,
         ⟨some 34, .mv (.t 7), none⟩,
         ⟨some 35, .mv (.t 0), none⟩,
         ⟨some 36, .mv (.t 7), none⟩,
         ⟨some 37, .bin .sub (.t 36) (.c (.d (.int .i64 1))), none⟩,
         ⟨some 38, .mv (.t 0), none⟩,
         ⟨some 39, .mv (.t 7), none⟩,
         ⟨some 40, .bin .sub (.t 39) (.c (.d (.int .i64 1))), none⟩,
         ⟨some 41, .ix (.t 38) (.t 40) 1, none⟩,
         ⟨some 42, .ld (.t 41) none, none⟩,
         ⟨some 43, .mv (.t 0), none⟩,
         ⟨some 44, .mv (.t 7), none⟩,
         ⟨some 45, .ix (.t 43) (.t 44) 1, none⟩,
         ⟨some 46, .ld (.t 45) none, none⟩,
         ⟨some 47, .ix (.t 33) (.t 34) 1, none⟩,
         ⟨none, .st (.t 47) (.t 42) 1, none⟩,
         ⟨some 48, .ix (.t 35) (.t 37) 1, none⟩,
         ⟨none, .st (.t 48) (.t 46) 1, none⟩] [0, 1, 2, 6, 7]))
    (.reg [⟨some 31, .mv (.t 7), none⟩,
        ⟨some 32, .bin .sub (.t 31) (.c (.d (.int .i64 1))), none⟩,
        ⟨some 7, .mv (.t 32), none⟩] [0, 1, 2, 6, 7])))

/- slots of c_slices_insertionSortOrdered_int_L1 : [0, 1, 2, 6] -/
def c_slices_insertionSortOrdered_int_L1 : C := (.seq (.seq (.reg [⟨some 10, .mv (.t 6), none⟩,
        ⟨some 11, .mv (.t 2), none⟩,
        ⟨some 12, .bin .lss (.t 10) (.t 11), none⟩] [0, 1, 2, 6, 12])
    (.cond (.t 12) .skip
     (.exit 0)))
   (.seq (.block 1 (.seq (.reg [⟨some 15, .mv (.t 6), none⟩,
          ⟨some 7, .mv (.t 15), none⟩] [0, 1, 2, 6, 7])
      (.block 2 (.loop c_slices_insertionSortOrdered_int_L0))))
    (.reg [⟨some 13, .mv (.t 6), none⟩,
        ⟨some 14, .bin .add (.t 13) (.c (.d (.int .i64 1))), none⟩,
        ⟨some 6, .mv (.t 14), none⟩] [0, 1, 2, 6])))

def c_slices_insertionSortOrdered_int : C := (.seq (.reg [⟨some 8, .mv (.t 1), none⟩,
       ⟨some 9, .bin .add (.t 8) (.c (.d (.int .i64 1))), none⟩,
       ⟨some 6, .mv (.t 9), none⟩] [0, 1, 2, 6])
   (.block 0 (.loop c_slices_insertionSortOrdered_int_L1)))

def t_slices_insertionSortOrdered_int : List (List Nat × PT) := [([0, 1, 2, 6], .done), ([0, 1, 2, 6, 12], .done), ([0, 1, 2, 6, 7], .done), ([0, 1, 2, 6, 7, 30], .done), ([0, 1, 2, 6, 7], .done), ([0, 1, 2, 6, 7], .done), ([0, 1, 2, 6], .done)]

noncomputable def x_slices_insertionSortOrdered_int : Cx := ⟨Tryd.prog, 133, Tryd.f133, 49, [], [], []⟩
theorem g_slices_insertionSortOrdered_int : Good x_slices_insertionSortOrdered_int := ⟨Tryd.func133, by kernel_rfl⟩
theorem rs_slices_insertionSortOrdered_int : x_slices_insertionSortOrdered_int.rs = [] := rfl
theorem k_slices_insertionSortOrdered_int : compC Tryd.prog 49 [] [] (Tryd.f133.body.getD .skip) t_slices_insertionSortOrdered_int = some (c_slices_insertionSortOrdered_int, []) := by kernel_rfl
theorem b_slices_insertionSortOrdered_int : Tryd.f133.body = some (Tryd.f133.body.getD .skip) := by kernel_rfl
theorem i_slices_insertionSortOrdered_int {args : List AV} {σ : Heap} {K : AV → Heap → Prop} (hl : args.length ≤ 49) (h : Run x_slices_insertionSortOrdered_int K [.code c_slices_insertionSortOrdered_int] (argF args) E σ) : ACalls Tryd.prog 133 args σ K :=
  acalls_of (cx := x_slices_insertionSortOrdered_int) g_slices_insertionSortOrdered_int b_slices_insertionSortOrdered_int Tryd.ntmps133 hl (compC_rc x_slices_insertionSortOrdered_int _ _ _ _ k_slices_insertionSortOrdered_int) h

/-! ### cmp.Less(int) -/
def c_cmp_Less_int : C := (.seq (.reg [⟨some 4, .mv (.c (.d (.bool false))), none⟩] [0, 1])
   (.seq (.reg [⟨some 5, .mv (.t 0), none⟩,
        ⟨some 6, .call 89 [(.t 5)], none⟩,
        ⟨some 7, .mv (.t 6), none⟩,
        ⟨some 8, .mv (.t 1), some (7, true)⟩,
        ⟨some 9, .call 89 [(.t 8)], some (7, true)⟩,
        ⟨some 10, .un .not (.t 9), some (7, true)⟩,
        ⟨some 11, .pick (.t 7) (.t 10) (.c (.d (.bool false))), none⟩,
        ⟨some 12, .mv (.t 11), none⟩,
        ⟨some 13, .mv (.t 0), some (12, false)⟩,
        ⟨some 14, .mv (.t 1), some (12, false)⟩,
        ⟨some 15, .bin .lss (.t 13) (.t 14), some (12, false)⟩,
        ⟨some 16, .pick (.t 12) (.c (.d (.bool true))) (.t 15), none⟩,
        ⟨some 4, .mv (.t 16), none⟩] [4])
    .ret))

def t_cmp_Less_int : List (List Nat × PT) := [([0, 1], .done), ([4], .done)]

noncomputable def x_cmp_Less_int : Cx := ⟨Tryd.prog, 139, Tryd.f139, 17, [], [], [.t 4]⟩
theorem g_cmp_Less_int : Good x_cmp_Less_int := ⟨Tryd.func139, by kernel_rfl⟩
theorem rs_cmp_Less_int : x_cmp_Less_int.rs = [.t 4] := rfl
theorem k_cmp_Less_int : compC Tryd.prog 17 [] [] (Tryd.f139.body.getD .skip) t_cmp_Less_int = some (c_cmp_Less_int, []) := by kernel_rfl
theorem b_cmp_Less_int : Tryd.f139.body = some (Tryd.f139.body.getD .skip) := by kernel_rfl
theorem i_cmp_Less_int {args : List AV} {σ : Heap} {K : AV → Heap → Prop} (hl : args.length ≤ 17) (h : Run x_cmp_Less_int K [.code c_cmp_Less_int] (argF args) E σ) : ACalls Tryd.prog 139 args σ K :=
  acalls_of (cx := x_cmp_Less_int) g_cmp_Less_int b_cmp_Less_int Tryd.ntmps139 hl (compC_rc x_cmp_Less_int _ _ _ _ k_cmp_Less_int) h

end Go.Ab
