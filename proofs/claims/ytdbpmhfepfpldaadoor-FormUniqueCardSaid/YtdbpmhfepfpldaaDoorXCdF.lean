/- The compact codes of the functions of this seat, computed out of the translation. Conditions: none. -/
import Derived.Test.YtdbpmhfepfpldaaDoorXAb13
import Derived.Test.YtdbpmhfepfpldaaDoorProg
import Derived.KernelRfl
set_option linter.unusedSimpArgs false
set_option linter.unusedVariables false
namespace Go.Ab
open Go.Proofs

theorem mixed : Tryd.prog.follows .mixedOrders = true := by kernel_rfl

/-! ### amortcost/amortcostlaw19.FormBasics -/
def c_law19_FormBasics : C := (.seq (.reg [⟨some 4, .mv (.c (.d (.bool false))), none⟩] [0, 1])
   (.seq (.reg [⟨some 5, .mv (.t 0), none⟩,
        ⟨some 6, .call 18 [(.t 5)], none⟩,
        ⟨some 7, .mv (.t 0), none⟩,
        ⟨some 8, .call 19 [(.t 7)], none⟩,
        ⟨some 9, .call 17 [(.t 6), (.t 8)], none⟩,
        ⟨some 10, .mv (.t 9), none⟩,
        ⟨some 11, .mv (.t 1), some (10, true)⟩,
        ⟨some 12, .call 20 [(.t 11)], some (10, true)⟩,
        ⟨some 13, .mv (.t 1), some (10, true)⟩,
        ⟨some 14, .call 21 [(.t 13)], some (10, true)⟩,
        ⟨some 15, .call 17 [(.t 12), (.t 14)], some (10, true)⟩,
        ⟨some 16, .pick (.t 10) (.t 15) (.c (.d (.bool false))), none⟩,
        ⟨some 17, .mv (.t 16), none⟩,
        ⟨some 18, .call 22 [], some (17, true)⟩,
        ⟨some 19, .pick (.t 17) (.t 18) (.c (.d (.bool false))), none⟩,
        ⟨some 4, .mv (.t 19), none⟩] [4])
    .ret))

def t_law19_FormBasics : List (List Nat × PT) := [([0, 1], .done), ([4], .done)]

noncomputable def x_law19_FormBasics : Cx := ⟨Tryd.prog, 4, Tryd.f4, 20, [], [], [.t 4]⟩
theorem g_law19_FormBasics : Good x_law19_FormBasics := ⟨Tryd.func4, by kernel_rfl⟩
theorem rs_law19_FormBasics : x_law19_FormBasics.rs = [.t 4] := rfl
theorem k_law19_FormBasics : compC Tryd.prog 20 [] [] (Tryd.f4.body.getD .skip) t_law19_FormBasics = some (c_law19_FormBasics, []) := by kernel_rfl
theorem b_law19_FormBasics : Tryd.f4.body = some (Tryd.f4.body.getD .skip) := by kernel_rfl
theorem i_law19_FormBasics {args : List AV} {σ : Heap} {K : AV → Heap → Prop} (hl : args.length ≤ 20) (h : Run x_law19_FormBasics K [.code c_law19_FormBasics] (argF args) E σ) : ACalls Tryd.prog 4 args σ K :=
  acalls_of (cx := x_law19_FormBasics) g_law19_FormBasics b_law19_FormBasics Tryd.ntmps4 hl (compC_rc x_law19_FormBasics _ _ _ _ k_law19_FormBasics) h

/-! ### amortcost/amortcostlaw19.FormTexts -/
def c_law19_FormTexts : C := (.seq (.reg [⟨some 2, .box (.t 0) false, none⟩,
       ⟨some 3, .box (.t 1) false, none⟩,
       ⟨some 4, .mv (.c (.d (.bool false))), none⟩] [2, 3])
   (.seq (.seq (.reg [⟨some 7, .ldl (.t 2) (some 2), none⟩,
         ⟨some 8, .ldl (.t 3) (some 2), none⟩,
         ⟨some 9, .bsl 2 2 [(.d (.int .i64 0)), .nils, (.d (.int .i64 0)), .nils] [(0, 2, (.t 7)), (2, 2, (.t 8))], none⟩,
         ⟨some 10, .call 23 [(.t 9)], none⟩,
         ⟨some 11, .un .not (.t 10), none⟩] [2, 3, 11])
     (.cond (.t 11) (.seq (.reg [⟨some 4, .mv (.c (.d (.bool true))), none⟩] [4])
       .ret)
      .skip))
    (.seq (.reg [⟨some 12, .ldl (.t 2) (some 2), none⟩,
         ⟨some 14, .ldl (.t 3) (some 2), none⟩,
         ⟨some 13, .call 24 [(.t 12)], none⟩,
         ⟨some 15, .call 24 [(.t 14)], none⟩,
         ⟨some 5, .mv (.t 13), none⟩,
         ⟨some 6, .mv (.t 15), none⟩] [2, 3, 5, 6])
     (.seq (.seq (.reg [⟨some 16, .mv (.t 5), none⟩,
           ⟨some 17, .ldl (.t 2) (some 2), none⟩,
           ⟨some 18, .call 25 [(.t 17)], none⟩,
           ⟨some 19, .bin .neq (.t 16) (.t 18), none⟩,
           ⟨some 20, .mv (.t 19), none⟩,
           ⟨some 21, .mv (.t 6), some (20, false)⟩,
           ⟨some 22, .ldl (.t 3) (some 2), some (20, false)⟩,
           ⟨some 23, .call 25 [(.t 22)], some (20, false)⟩,
           ⟨some 24, .bin .neq (.t 21) (.t 23), some (20, false)⟩,
           ⟨some 25, .pick (.t 20) (.c (.d (.bool true))) (.t 24), none⟩] [2, 3, 5, 6, 25])
       (.cond (.t 25) (.seq (.reg [⟨some 4, .mv (.c (.d (.bool false))), none⟩] [4])
         .ret)
        .skip))
      (.seq (.reg [⟨some 26, .ldl (.t 2) (some 2), none⟩,
           ⟨some 27, .call 26 [(.t 26)], none⟩,
           ⟨some 28, .un .not (.t 27), none⟩,
           ⟨some 29, .mv (.t 28), none⟩,
           ⟨some 30, .ldl (.t 3) (some 2), some (29, false)⟩,
           ⟨some 31, .call 26 [(.t 30)], some (29, false)⟩,
           ⟨some 32, .un .not (.t 31), some (29, false)⟩,
           ⟨some 33, .pick (.t 29) (.c (.d (.bool true))) (.t 32), none⟩,
           ⟨some 34, .mv (.t 33), none⟩,
           ⟨some 35, .mv (.t 5), some (34, false)⟩,
           ⟨some 36, .mv (.t 6), some (34, false)⟩,
           ⟨some 37, .bin .eql (.t 35) (.t 36), some (34, false)⟩,
           ⟨some 38, .ldl (.t 2) (some 2), some (34, false)⟩,
           ⟨some 39, .ldl (.t 3) (some 2), some (34, false)⟩,
           ⟨some 40, .call 17 [(.t 38), (.t 39)], some (34, false)⟩,
           ⟨some 41, .binb .eql (.t 37) (.t 40), some (34, false)⟩,
           ⟨some 42, .pick (.t 34) (.c (.d (.bool true))) (.t 41), none⟩,
           ⟨some 43, .mv (.t 42), none⟩,
           ⟨some 44, .call 22 [], some (43, true)⟩,
           ⟨some 45, .pick (.t 43) (.t 44) (.c (.d (.bool false))), none⟩,
           ⟨some 4, .mv (.t 45), none⟩] [4])
       .ret)))))

def t_law19_FormTexts : List (List Nat × PT) := [([2, 3], .done), ([2, 3, 11], .done), ([4], .done), ([2, 3, 5, 6], (.one 0 (.one 2 (.one 1 (.one 3 (.one 4 (.one 5 .done))))))), ([2, 3, 5, 6, 25], .done), ([4], .done), ([4], .done)]

noncomputable def x_law19_FormTexts : Cx := ⟨Tryd.prog, 5, Tryd.f5, 46, [300007, 300008, 300012, 300014, 300017, 300022, 300026, 300030, 300038, 300039], [], [.t 4]⟩
theorem g_law19_FormTexts : Good x_law19_FormTexts := ⟨Tryd.func5, by kernel_rfl⟩
theorem rs_law19_FormTexts : x_law19_FormTexts.rs = [.t 4] := rfl
theorem k_law19_FormTexts : compC Tryd.prog 46 [300007, 300008, 300012, 300014, 300017, 300022, 300026, 300030, 300038, 300039] [] (Tryd.f5.body.getD .skip) t_law19_FormTexts = some (c_law19_FormTexts, []) := by kernel_rfl
theorem b_law19_FormTexts : Tryd.f5.body = some (Tryd.f5.body.getD .skip) := by kernel_rfl
theorem i_law19_FormTexts {args : List AV} {σ : Heap} {K : AV → Heap → Prop} (hl : args.length ≤ 46) (h : Run x_law19_FormTexts K [.code c_law19_FormTexts] (argF args) E σ) : ACalls Tryd.prog 5 args σ K :=
  acalls_of (cx := x_law19_FormTexts) g_law19_FormTexts b_law19_FormTexts Tryd.ntmps5 hl (compC_rc x_law19_FormTexts _ _ _ _ k_law19_FormTexts) h

/-! ### amortcost/amortcostlaw19.FormSums -/
def c_law19_FormSums : C := (.seq (.reg [⟨some 3, .box (.t 0) false, none⟩,
       ⟨some 4, .box (.t 1) false, none⟩,
       ⟨some 6, .mv (.c (.d (.bool false))), none⟩] [2, 3, 4])
   (.seq (.seq (.reg [⟨some 19, .ldl (.t 3) (some 2), none⟩,
         ⟨some 20, .ldl (.t 4) (some 2), none⟩,
         ⟨some 21, .bsl 2 2 [(.d (.int .i64 0)), .nils, (.d (.int .i64 0)), .nils] [(0, 2, (.t 19)), (2, 2, (.t 20))], none⟩,
         ⟨some 22, .call 23 [(.t 21)], none⟩,
         ⟨some 23, .un .not (.t 22), none⟩] [2, 3, 4, 23])
     (.cond (.t 23) (.seq (.reg [⟨some 6, .mv (.c (.d (.bool true))), none⟩] [6])
       .ret)
      .skip))
    (.seq (.reg [⟨some 25, .ldl (.t 3) (some 2), none⟩,
         ⟨some 26, .ldl (.t 4) (some 2), none⟩,
         ⟨some 27, .call 27 [(.t 25), (.t 26)], none⟩,
         ⟨some 24, .mv (.t 27), none⟩,
         ⟨some 28, .ext (.t 24) 0, none⟩,
         ⟨some 29, .ext (.t 24) 1, none⟩,
         ⟨some 7, .al [(.d (.int .i64 0)), .nils] false, none⟩,
         ⟨none, .st (.t 7) (.t 28) 2, none⟩,
         ⟨some 8, .mv (.t 29), none⟩] [2, 3, 4, 7, 8])
     (.seq (.reg [⟨some 31, .ldl (.t 3) (some 2), none⟩,
          ⟨some 32, .ldl (.t 4) (some 2), none⟩,
          ⟨some 33, .call 28 [(.t 31), (.t 32)], none⟩,
          ⟨some 30, .mv (.t 33), none⟩,
          ⟨some 34, .ext (.t 30) 0, none⟩,
          ⟨some 35, .ext (.t 30) 1, none⟩,
          ⟨some 9, .al [(.d (.int .i64 0)), .nils] false, none⟩,
          ⟨none, .st (.t 9) (.t 34) 2, none⟩,
          ⟨some 10, .mv (.t 35), none⟩] [2, 3, 4, 7, 8, 9, 10])
      (.seq (.reg [⟨some 37, .ldl (.t 3) (some 2), none⟩,
           ⟨some 38, .ldl (.t 4) (some 2), none⟩,
           ⟨some 39, .call 29 [(.t 37), (.t 38)], none⟩,
           ⟨some 36, .mv (.t 39), none⟩,
           ⟨some 40, .ext (.t 36) 0, none⟩,
           ⟨some 41, .ext (.t 36) 1, none⟩,
           ⟨some 11, .al [(.d (.int .i64 0)), .nils] false, none⟩,
           ⟨none, .st (.t 11) (.t 40) 2, none⟩,
           ⟨some 12, .mv (.t 41), none⟩] [2, 3, 4, 7, 8, 9, 10, 11, 12])
       (.seq (.reg [⟨some 43, .ldl (.t 3) (some 2), none⟩,
            ⟨some 44, .ldl (.t 4) (some 2), none⟩,
            ⟨some 45, .call 30 [(.t 43), (.t 44)], none⟩,
            ⟨some 42, .mv (.t 45), none⟩,
            ⟨some 46, .ext (.t 42) 0, none⟩,
            ⟨some 47, .ext (.t 42) 1, none⟩,
            ⟨some 13, .al [(.d (.int .i64 0)), .nils] false, none⟩,
            ⟨none, .st (.t 13) (.t 46) 2, none⟩,
            ⟨some 14, .mv (.t 47), none⟩] [2, 3, 7, 8, 9, 10, 11, 12, 13, 14])
        (.seq (.seq (.reg [⟨some 48, .mv (.t 8), none⟩,
              ⟨some 49, .mv (.t 10), none⟩,
              ⟨some 50, .bin .neq (.t 48) (.t 49), none⟩,
              ⟨some 51, .mv (.t 50), none⟩,
              ⟨some 52, .ldl (.t 7) (some 2), some (51, false)⟩,
              ⟨some 53, .ldl (.t 9) (some 2), some (51, false)⟩,
              ⟨some 54, .call 17 [(.t 52), (.t 53)], some (51, false)⟩,
              ⟨some 55, .un .not (.t 54), some (51, false)⟩,
              ⟨some 56, .pick (.t 51) (.c (.d (.bool true))) (.t 55), none⟩,
              ⟨some 57, .mv (.t 56), none⟩,
              ⟨some 58, .mv (.t 12), some (57, false)⟩,
              ⟨some 59, .mv (.t 14), some (57, false)⟩,
              ⟨some 60, .bin .neq (.t 58) (.t 59), some (57, false)⟩,
              ⟨some 61, .pick (.t 57) (.c (.d (.bool true))) (.t 60), none⟩,
              ⟨some 62, .mv (.t 61), none⟩,
              ⟨some 63, .ldl (.t 11) (some 2), some (62, false)⟩,
              ⟨some 64, .ldl (.t 13) (some 2), some (62, false)⟩,
              ⟨some 65, .call 17 [(.t 63), (.t 64)], some (62, false)⟩,
              ⟨some 66, .un .not (.t 65), some (62, false)⟩,
              ⟨some 67, .pick (.t 62) (.c (.d (.bool true))) (.t 66), none⟩] [2, 3, 67])
          (.cond (.t 67) (.seq (.reg [⟨some 6, .mv (.c (.d (.bool false))), none⟩] [6])
            .ret)
           .skip))
         (.seq (.reg [⟨some 69, .ldl (.t 3) (some 2), none⟩,
              ⟨some 70, .mv (.t 2), none⟩,
              ⟨some 71, .call 31 [(.t 69), (.t 70)], none⟩,
              ⟨some 68, .mv (.t 71), none⟩,
              ⟨some 72, .ext (.t 68) 0, none⟩,
              ⟨some 73, .ext (.t 68) 1, none⟩,
              ⟨some 15, .al [(.d (.int .i64 0)), .nils] false, none⟩,
              ⟨none, .st (.t 15) (.t 72) 2, none⟩,
              ⟨some 16, .mv (.t 73), none⟩] [2, 3, 15, 16])
          (.seq (.reg [⟨some 75, .ldl (.t 3) (some 2), none⟩,
               ⟨some 76, .mv (.t 2), none⟩,
               ⟨some 77, .call 32 [(.t 75), (.t 76)], none⟩,
               ⟨some 74, .mv (.t 77), none⟩,
               ⟨some 78, .ext (.t 74) 0, none⟩,
               ⟨some 79, .ext (.t 74) 1, none⟩,
               ⟨some 17, .al [(.d (.int .i64 0)), .nils] false, none⟩,
               ⟨none, .st (.t 17) (.t 78) 2, none⟩,
               ⟨some 18, .mv (.t 79), none⟩] [15, 16, 17, 18])
           (.seq (.reg [⟨some 80, .mv (.t 16), none⟩,
                ⟨some 81, .mv (.t 18), none⟩,
                ⟨some 82, .bin .eql (.t 80) (.t 81), none⟩,
                ⟨some 83, .mv (.t 82), none⟩,
                ⟨some 84, .ldl (.t 15) (some 2), some (83, true)⟩,
                ⟨some 85, .ldl (.t 17) (some 2), some (83, true)⟩,
                ⟨some 86, .call 17 [(.t 84), (.t 85)], some (83, true)⟩,
                ⟨some 87, .pick (.t 83) (.t 86) (.c (.d (.bool false))), none⟩,
                ⟨some 88, .mv (.t 87), none⟩,
                ⟨some 89, .call 22 [], some (88, true)⟩,
                ⟨some 90, .pick (.t 88) (.t 89) (.c (.d (.bool false))), none⟩,
                ⟨some 6, .mv (.t 90), none⟩] [6])
            .ret))))))))))

def t_law19_FormSums : List (List Nat × PT) := [([2, 3, 4], .done), ([2, 3, 4, 23], .done), ([6], .done), ([2, 3, 4, 7, 8], .done), ([2, 3, 4, 7, 8, 9, 10], .done), ([2, 3, 4, 7, 8, 9, 10, 11, 12], .done), ([2, 3, 7, 8, 9, 10, 11, 12, 13, 14], .done), ([2, 3, 67], .done), ([6], .done), ([2, 3, 15, 16], .done), ([15, 16, 17, 18], .done), ([6], .done)]

noncomputable def x_law19_FormSums : Cx := ⟨Tryd.prog, 6, Tryd.f6, 91, [300019, 300020, 300025, 300026, 300031, 300032, 300037, 300038, 300043, 300044, 300052, 300053, 300063, 300064, 300069, 300075, 300084, 300085], [], [.t 6]⟩
theorem g_law19_FormSums : Good x_law19_FormSums := ⟨Tryd.func6, by kernel_rfl⟩
theorem rs_law19_FormSums : x_law19_FormSums.rs = [.t 6] := rfl
theorem k_law19_FormSums : compC Tryd.prog 91 [300019, 300020, 300025, 300026, 300031, 300032, 300037, 300038, 300043, 300044, 300052, 300053, 300063, 300064, 300069, 300075, 300084, 300085] [] (Tryd.f6.body.getD .skip) t_law19_FormSums = some (c_law19_FormSums, []) := by kernel_rfl
theorem b_law19_FormSums : Tryd.f6.body = some (Tryd.f6.body.getD .skip) := by kernel_rfl
theorem i_law19_FormSums {args : List AV} {σ : Heap} {K : AV → Heap → Prop} (hl : args.length ≤ 91) (h : Run x_law19_FormSums K [.code c_law19_FormSums] (argF args) E σ) : ACalls Tryd.prog 6 args σ K :=
  acalls_of (cx := x_law19_FormSums) g_law19_FormSums b_law19_FormSums Tryd.ntmps6 hl (compC_rc x_law19_FormSums _ _ _ _ k_law19_FormSums) h

/-! ### amortcost/amortcostlaw19.FormCanonicals -/
def c_law19_FormCanonicals : C := (.seq (.reg [⟨some 1, .box (.t 0) false, none⟩,
       ⟨some 2, .mv (.c (.d (.bool false))), none⟩] [1])
   (.seq (.seq (.reg [⟨some 7, .fld (.t 1) 1, none⟩,
         ⟨some 8, .ldl (.t 7) none, none⟩,
         ⟨some 9, .len (.t 8), none⟩,
         ⟨some 10, .bin .gtr (.t 9) (.c (.d (.int .i64 80))), none⟩] [1, 10])
     (.cond (.t 10) (.seq (.reg [⟨some 2, .mv (.c (.d (.bool true))), none⟩] [2])
       .ret)
      .skip))
    (.seq (.reg [⟨some 12, .ldl (.t 1) (some 2), none⟩,
         ⟨some 13, .call 33 [(.t 12)], none⟩,
         ⟨some 11, .mv (.t 13), none⟩,
         ⟨some 14, .ext (.t 11) 0, none⟩,
         ⟨some 15, .ext (.t 11) 1, none⟩,
         ⟨some 3, .al [(.d (.int .i64 0)), .nils] false, none⟩,
         ⟨none, .st (.t 3) (.t 14) 2, none⟩,
         ⟨some 4, .mv (.t 15), none⟩] [1, 3, 4])
     (.seq (.reg [⟨some 17, .ldl (.t 1) (some 2), none⟩,
          ⟨some 18, .call 34 [(.t 17)], none⟩,
          ⟨some 16, .mv (.t 18), none⟩,
          ⟨some 19, .ext (.t 16) 0, none⟩,
          ⟨some 20, .ext (.t 16) 1, none⟩,
          ⟨some 5, .al [(.d (.int .i64 0)), .nils] false, none⟩,
          ⟨none, .st (.t 5) (.t 19) 2, none⟩,
          ⟨some 6, .mv (.t 20), none⟩] [1, 3, 4, 5, 6])
      (.seq (.reg [⟨some 21, .ldl (.t 1) (some 2), none⟩,
           ⟨some 23, .ldl (.t 1) (some 2), none⟩,
           ⟨some 22, .call 35 [(.t 21)], none⟩,
           ⟨some 24, .call 26 [(.t 23)], none⟩,
           ⟨some 25, .binb .eql (.t 22) (.t 24), none⟩,
           ⟨some 26, .mv (.t 25), none⟩,
           ⟨some 27, .mv (.t 4), some (26, true)⟩,
           ⟨some 28, .mv (.t 6), some (26, true)⟩,
           ⟨some 29, .bin .eql (.t 27) (.t 28), some (26, true)⟩,
           ⟨some 30, .pick (.t 26) (.t 29) (.c (.d (.bool false))), none⟩,
           ⟨some 31, .mv (.t 30), none⟩,
           ⟨some 32, .ldl (.t 3) (some 2), some (31, true)⟩,
           ⟨some 33, .ldl (.t 5) (some 2), some (31, true)⟩,
           ⟨some 34, .call 17 [(.t 32), (.t 33)], some (31, true)⟩,
           ⟨some 35, .pick (.t 31) (.t 34) (.c (.d (.bool false))), none⟩,
           ⟨some 36, .mv (.t 35), none⟩,
           ⟨some 37, .call 22 [], some (36, true)⟩,
           ⟨some 38, .pick (.t 36) (.t 37) (.c (.d (.bool false))), none⟩,
           ⟨some 2, .mv (.t 38), none⟩] [2])
       .ret)))))

def t_law19_FormCanonicals : List (List Nat × PT) := [([1], .done), ([1, 10], .done), ([2], .done), ([1, 3, 4], .done), ([1, 3, 4, 5, 6], .done), ([2], (.one 0 (.one 2 (.one 1 (.one 3 (.one 4 (.one 5 (.one 6 (.one 7 (.one 8 (.one 9 (.one 10 (.one 11 (.one 12 (.one 13 (.one 14 (.one 15 (.one 16 (.one 17 (.one 18 .done))))))))))))))))))))]

noncomputable def x_law19_FormCanonicals : Cx := ⟨Tryd.prog, 7, Tryd.f7, 39, [300008, 300012, 300017, 300021, 300023, 300032, 300033], [], [.t 2]⟩
theorem g_law19_FormCanonicals : Good x_law19_FormCanonicals := ⟨Tryd.func7, by kernel_rfl⟩
theorem rs_law19_FormCanonicals : x_law19_FormCanonicals.rs = [.t 2] := rfl
theorem k_law19_FormCanonicals : compC Tryd.prog 39 [300008, 300012, 300017, 300021, 300023, 300032, 300033] [] (Tryd.f7.body.getD .skip) t_law19_FormCanonicals = some (c_law19_FormCanonicals, []) := by kernel_rfl
theorem b_law19_FormCanonicals : Tryd.f7.body = some (Tryd.f7.body.getD .skip) := by kernel_rfl
theorem i_law19_FormCanonicals {args : List AV} {σ : Heap} {K : AV → Heap → Prop} (hl : args.length ≤ 39) (h : Run x_law19_FormCanonicals K [.code c_law19_FormCanonicals] (argF args) E σ) : ACalls Tryd.prog 7 args σ K :=
  acalls_of (cx := x_law19_FormCanonicals) g_law19_FormCanonicals b_law19_FormCanonicals Tryd.ntmps7 hl (compC_rc x_law19_FormCanonicals _ _ _ _ k_law19_FormCanonicals) h

/-! ### amortcost/amortcostlaw19.FormUnique -/
def c_law19_FormUnique : C := (.seq (.reg [⟨some 3, .box (.t 0) false, none⟩,
       ⟨some 6, .mv (.c (.d (.bool false))), none⟩] [1, 2, 3])
   (.seq (.seq (.reg [⟨some 12, .ldl (.t 3) (some 2), none⟩,
         ⟨some 13, .call 36 [(.t 12)], none⟩,
         ⟨some 14, .un .not (.t 13), none⟩,
         ⟨some 15, .mv (.t 14), none⟩,
         ⟨some 16, .fld (.t 3) 1, some (15, false)⟩,
         ⟨some 17, .ldl (.t 16) none, some (15, false)⟩,
         ⟨some 18, .len (.t 17), some (15, false)⟩,
         ⟨some 19, .bin .gtr (.t 18) (.c (.d (.int .i64 40))), some (15, false)⟩,
         ⟨some 20, .pick (.t 15) (.c (.d (.bool true))) (.t 19), none⟩,
         ⟨some 21, .mv (.t 20), none⟩,
         ⟨some 22, .mv (.t 1), some (21, false)⟩,
         ⟨some 23, .bin .lss (.t 22) (.c (.d (.int .i64 0))), some (21, false)⟩,
         ⟨some 24, .pick (.t 21) (.c (.d (.bool true))) (.t 23), none⟩,
         ⟨some 25, .mv (.t 24), none⟩,
         ⟨some 26, .mv (.t 1), some (25, false)⟩,
         ⟨some 27, .fld (.t 3) 1, some (25, false)⟩,
         ⟨some 28, .ldl (.t 27) none, some (25, false)⟩,
         ⟨some 29, .len (.t 28), some (25, false)⟩,
         ⟨some 30, .bin .geq (.t 26) (.t 29), some (25, false)⟩,
         ⟨some 31, .pick (.t 25) (.c (.d (.bool true))) (.t 30), none⟩,
         ⟨some 32, .mv (.t 31), none⟩,
         ⟨some 33, .mv (.t 2), some (32, false)⟩,
         ⟨some 34, .bin .lss (.t 33) (.c (.d (.int .i64 (-1000)))), some (32, false)⟩,
         ⟨some 35, .pick (.t 32) (.c (.d (.bool true))) (.t 34), none⟩,
         ⟨some 36, .mv (.t 35), none⟩,
         ⟨some 37, .mv (.t 2), some (36, false)⟩,
         ⟨some 38, .bin .gtr (.t 37) (.c (.d (.int .i64 1000))), some (36, false)⟩,
         ⟨some 39, .pick (.t 36) (.c (.d (.bool true))) (.t 38), none⟩] [1, 2, 3, 39])
     (.cond (.t 39) (.seq (.reg [⟨some 6, .mv (.c (.d (.bool true))), none⟩] [6])
       .ret)
      .skip))
    (.seq (.reg [⟨some 41, .ldl (.t 3) (some 2), none⟩,
         ⟨some 42, .call 33 [(.t 41)], none⟩,
         ⟨some 40, .mv (.t 42), none⟩,
         ⟨some 43, .ext (.t 40) 0, none⟩,
         ⟨some 44, .ext (.t 40) 1, none⟩,
         ⟨some 7, .al [(.d (.int .i64 0)), .nils] false, none⟩,
         ⟨none, .st (.t 7) (.t 43) 2, none⟩,
         ⟨some 8, .mv (.t 44), none⟩] [1, 2, 3, 7, 8])
     (.seq (.seq (.reg [⟨some 45, .ldl (.t 3) (some 2), none⟩,
           ⟨some 46, .call 26 [(.t 45)], none⟩,
           ⟨some 47, .mv (.t 46), none⟩,
           ⟨some 48, .mv (.t 8), some (47, true)⟩,
           ⟨some 49, .bin .neq (.t 48) (.c (.d (.int .i64 0))), some (47, true)⟩,
           ⟨some 50, .mv (.t 49), some (47, true)⟩,
           ⟨some 51, .ldl (.t 3) (some 2), some (50, false)⟩,
           ⟨some 52, .ldl (.t 7) (some 2), some (50, false)⟩,
           ⟨some 53, .call 17 [(.t 51), (.t 52)], some (50, false)⟩,
           ⟨some 54, .un .not (.t 53), some (50, false)⟩,
           ⟨some 55, .pick (.t 50) (.c (.d (.bool true))) (.t 54), some (47, true)⟩,
           ⟨some 56, .pick (.t 47) (.t 55) (.c (.d (.bool false))), none⟩] [1, 2, 3, 7, 8, 56])
       (.cond (.t 56) (.seq (.reg [⟨some 6, .mv (.c (.d (.bool false))), none⟩] [6])
         .ret)
        .skip))
      (.seq (.reg [⟨some 9, .al [(.d (.int .i64 0)), .nils] false, none⟩,
           ⟨some 57, .fld (.t 3) 0, none⟩,
           ⟨some 58, .ldl (.t 57) none, none⟩,
           ⟨some 59, .fld (.t 3) 1, none⟩,
           ⟨some 60, .ldl (.t 59) none, none⟩,
           ⟨some 61, .appm 49 2 16 (.c .nils) (.t 60), none⟩,
           ⟨some 62, .bld [(.d (.int .i64 0)), .nils] [(0, 1, (.t 58)), (1, 1, (.t 61))], none⟩,
           ⟨none, .st (.t 9) (.t 62) 2, none⟩] [1, 2, 7, 8, 9])
       (.seq (.seq (.reg [⟨some 63, .fld (.t 9) 1, none⟩,
             ⟨some 64, .ldl (.t 63) none, none⟩,
             ⟨some 65, .mv (.t 1), none⟩,
             ⟨some 66, .ix (.t 64) (.t 65) 2, none⟩,
             ⟨some 67, .fld (.t 66) 1, none⟩,
             ⟨some 68, .ld (.t 67) none, none⟩,
             ⟨some 69, .bin .lss (.t 68) (.c (.d (.int .i64 (-1073741824)))), none⟩,
             ⟨some 70, .mv (.t 69), none⟩,
             ⟨some 71, .fld (.t 9) 1, some (70, false)⟩,
             ⟨some 72, .ldl (.t 71) none, some (70, false)⟩,
             ⟨some 73, .mv (.t 1), some (70, false)⟩,
             ⟨some 74, .ix (.t 72) (.t 73) 2, some (70, false)⟩,
             ⟨some 75, .fld (.t 74) 1, some (70, false)⟩,
             ⟨some 76, .ld (.t 75) none, some (70, false)⟩,
             ⟨some 77, .bin .gtr (.t 76) (.c (.d (.int .i64 1073741824))), some (70, false)⟩,
             ⟨some 78, .pick (.t 70) (.c (.d (.bool true))) (.t 77), none⟩] [1, 2, 7, 8, 9, 78])
         (.cond (.t 78) (.seq (.reg [⟨some 79, .call 22 [], none⟩,
               ⟨some 6, .mv (.t 79), none⟩] [6])
           .ret)
          .skip))
        (.seq (.reg [⟨some 80, .fld (.t 9) 1, none⟩,
             ⟨some 81, .ldl (.t 80) none, none⟩,
             ⟨some 82, .mv (.t 1), none⟩,
             ⟨some 83, .ix (.t 81) (.t 82) 2, none⟩,
             ⟨some 84, .fld (.t 83) 1, none⟩,
             ⟨some 85, .ld (.t 84) none, none⟩,
             ⟨some 86, .mv (.t 2), none⟩,
             ⟨some 87, .bin .sub (.t 85) (.t 86), none⟩,
             ⟨some 88, .ix (.t 81) (.t 82) 2, none⟩,
             ⟨some 89, .fld (.t 88) 1, none⟩,
             ⟨none, .st (.t 89) (.t 87) 1, none⟩] [1, 2, 7, 8, 9])
         (.seq (.reg [⟨some 90, .fld (.t 9) 1, none⟩,
              ⟨some 91, .ldl (.t 90) none, none⟩,
              ⟨some 92, .fld (.t 9) 1, none⟩,
              ⟨some 93, .ldl (.t 92) none, none⟩,
              ⟨some 94, .mv (.t 1), none⟩,
              ⟨some 95, .ix (.t 93) (.t 94) 2, none⟩,
              ⟨some 96, .fld (.t 95) 0, none⟩,
              ⟨some 97, .ld (.t 96) none, none⟩,
              ⟨some 98, .mv (.t 2), none⟩,
              ⟨some 99, .bld [(.d (.int .i64 0)), (.d (.int .i64 0))] [(0, 1, (.t 97)), (1, 1, (.t 98))], none⟩,
              ⟨some 100, .bsl 2 1 [(.d (.int .i64 0)), (.d (.int .i64 0))] [(0, 2, (.t 99))], none⟩,
              ⟨some 101, .appm 49 2 16 (.t 91) (.t 100), none⟩,
              ⟨some 102, .fld (.t 9) 1, none⟩,
              ⟨none, .st (.t 102) (.t 101) 1, none⟩] [7, 8, 9])
          (.seq (.reg [⟨some 104, .ldl (.t 9) (some 2), none⟩,
               ⟨some 105, .call 33 [(.t 104)], none⟩,
               ⟨some 103, .mv (.t 105), none⟩,
               ⟨some 106, .ext (.t 103) 0, none⟩,
               ⟨some 107, .ext (.t 103) 1, none⟩,
               ⟨some 10, .al [(.d (.int .i64 0)), .nils] false, none⟩,
               ⟨none, .st (.t 10) (.t 106) 2, none⟩,
               ⟨some 11, .mv (.t 107), none⟩] [7, 8, 10, 11])
           (.seq (.reg [⟨some 108, .mv (.t 8), none⟩,
                ⟨some 109, .mv (.t 11), none⟩,
                ⟨some 110, .bin .eql (.t 108) (.t 109), none⟩,
                ⟨some 111, .mv (.t 110), none⟩,
                ⟨some 112, .ldl (.t 7) (some 2), some (111, true)⟩,
                ⟨some 113, .ldl (.t 10) (some 2), some (111, true)⟩,
                ⟨some 114, .call 17 [(.t 112), (.t 113)], some (111, true)⟩,
                ⟨some 115, .pick (.t 111) (.t 114) (.c (.d (.bool false))), none⟩,
                ⟨some 116, .mv (.t 115), none⟩,
                ⟨some 117, .call 22 [], some (116, true)⟩,
                ⟨some 118, .pick (.t 116) (.t 117) (.c (.d (.bool false))), none⟩,
                ⟨some 6, .mv (.t 118), none⟩] [6])
            .ret))))))))))

def t_law19_FormUnique : List (List Nat × PT) := [([1, 2, 3], .done), ([1, 2, 3, 39], .done), ([6], .done), ([1, 2, 3, 7, 8], .done), ([1, 2, 3, 7, 8, 56], .done), ([6], .done), ([1, 2, 7, 8, 9], (.lay 6 (.one 0 (.one 1 (.one 2 (.one 3 (.one 4 (.one 5 (.one 7 .done))))))))), ([1, 2, 7, 8, 9, 78], .done), ([6], .done), ([1, 2, 7, 8, 9], .done), ([7, 8, 9], .done), ([7, 8, 10, 11], .done), ([6], .done)]

noncomputable def x_law19_FormUnique : Cx := ⟨Tryd.prog, 8, Tryd.f8, 119, [61, 101, 300012, 300017, 300028, 300041, 300045, 300051, 300052, 300058, 300060, 300064, 300072, 300081, 300091, 300093, 300104, 300112, 300113], [], [.t 6]⟩
theorem g_law19_FormUnique : Good x_law19_FormUnique := ⟨Tryd.func8, by kernel_rfl⟩
theorem rs_law19_FormUnique : x_law19_FormUnique.rs = [.t 6] := rfl
theorem k_law19_FormUnique : compC Tryd.prog 119 [61, 101, 300012, 300017, 300028, 300041, 300045, 300051, 300052, 300058, 300060, 300064, 300072, 300081, 300091, 300093, 300104, 300112, 300113] [] (Tryd.f8.body.getD .skip) t_law19_FormUnique = some (c_law19_FormUnique, []) := by kernel_rfl
theorem b_law19_FormUnique : Tryd.f8.body = some (Tryd.f8.body.getD .skip) := by kernel_rfl
theorem i_law19_FormUnique {args : List AV} {σ : Heap} {K : AV → Heap → Prop} (hl : args.length ≤ 119) (h : Run x_law19_FormUnique K [.code c_law19_FormUnique] (argF args) E σ) : ACalls Tryd.prog 8 args σ K :=
  acalls_of (cx := x_law19_FormUnique) g_law19_FormUnique b_law19_FormUnique Tryd.ntmps8 hl (compC_rc x_law19_FormUnique _ _ _ _ k_law19_FormUnique) h

/-! ### amortcost/amortcostlaw19.FormCompares -/
def c_law19_FormCompares : C := (.seq (.reg [⟨some 4, .box (.t 0) false, none⟩,
       ⟨some 5, .box (.t 1) false, none⟩,
       ⟨some 6, .box (.t 2) false, none⟩,
       ⟨some 8, .mv (.c (.d (.bool false))), none⟩] [3, 4, 5, 6])
   (.seq (.seq (.reg [⟨some 10, .ldl (.t 4) (some 2), none⟩,
         ⟨some 11, .ldl (.t 5) (some 2), none⟩,
         ⟨some 12, .ldl (.t 6) (some 2), none⟩,
         ⟨some 13, .bsl 2 3 [(.d (.int .i64 0)), .nils, (.d (.int .i64 0)), .nils, (.d (.int .i64 0)), .nils] [(0, 2, (.t 10)), (2, 2, (.t 11)), (4, 2, (.t 12))], none⟩,
         ⟨some 14, .call 23 [(.t 13)], none⟩,
         ⟨some 15, .un .not (.t 14), none⟩] [3, 4, 5, 6, 15])
     (.cond (.t 15) (.seq (.reg [⟨some 8, .mv (.c (.d (.bool true))), none⟩] [8])
       .ret)
      .skip))
    (.seq (.reg [⟨some 16, .ldl (.t 4) (some 2), none⟩,
         ⟨some 17, .ldl (.t 5) (some 2), none⟩,
         ⟨some 18, .call 37 [(.t 16), (.t 17)], none⟩,
         ⟨some 9, .mv (.t 18), none⟩] [3, 4, 5, 6, 9])
     (.seq (.seq (.reg [⟨some 19, .mv (.t 9), none⟩,
           ⟨some 20, .ldl (.t 4) (some 2), none⟩,
           ⟨some 21, .ldl (.t 5) (some 2), none⟩,
           ⟨some 22, .call 38 [(.t 20), (.t 21)], none⟩,
           ⟨some 23, .bin .neq (.t 19) (.t 22), none⟩,
           ⟨some 24, .mv (.t 23), none⟩,
           ⟨some 25, .mv (.t 9), some (24, false)⟩,
           ⟨some 26, .ldl (.t 5) (some 2), some (24, false)⟩,
           ⟨some 27, .ldl (.t 4) (some 2), some (24, false)⟩,
           ⟨some 28, .call 37 [(.t 26), (.t 27)], some (24, false)⟩,
           ⟨some 29, .un .neg (.t 28), some (24, false)⟩,
           ⟨some 30, .bin .neq (.t 25) (.t 29), some (24, false)⟩,
           ⟨some 31, .pick (.t 24) (.c (.d (.bool true))) (.t 30), none⟩,
           ⟨some 32, .mv (.t 31), none⟩,
           ⟨some 33, .mv (.t 9), some (32, false)⟩,
           ⟨some 34, .bin .eql (.t 33) (.c (.d (.int .i64 0))), some (32, false)⟩,
           ⟨some 35, .ldl (.t 4) (some 2), some (32, false)⟩,
           ⟨some 36, .ldl (.t 5) (some 2), some (32, false)⟩,
           ⟨some 37, .call 17 [(.t 35), (.t 36)], some (32, false)⟩,
           ⟨some 38, .binb .neq (.t 34) (.t 37), some (32, false)⟩,
           ⟨some 39, .pick (.t 32) (.c (.d (.bool true))) (.t 38), none⟩,
           ⟨some 40, .mv (.t 39), none⟩,
           ⟨some 41, .ldl (.t 4) (some 2), some (40, false)⟩,
           ⟨some 42, .mv (.t 3), some (40, false)⟩,
           ⟨some 44, .ldl (.t 4) (some 2), some (40, false)⟩,
           ⟨some 45, .mv (.t 3), some (40, false)⟩,
           ⟨some 43, .call 39 [(.t 41), (.t 42)], some (40, false)⟩,
           ⟨some 46, .call 40 [(.t 44), (.t 45)], some (40, false)⟩,
           ⟨some 47, .binb .neq (.t 43) (.t 46), some (40, false)⟩,
           ⟨some 48, .pick (.t 40) (.c (.d (.bool true))) (.t 47), none⟩] [4, 5, 6, 9, 48])
       (.cond (.t 48) (.seq (.reg [⟨some 8, .mv (.c (.d (.bool false))), none⟩] [8])
         .ret)
        .skip))
      (.seq (.seq (.reg [⟨some 49, .mv (.t 9), none⟩,
            ⟨some 50, .bin .leq (.t 49) (.c (.d (.int .i64 0))), none⟩,
            ⟨some 51, .mv (.t 50), none⟩,
            ⟨some 52, .ldl (.t 5) (some 2), some (51, true)⟩,
            ⟨some 53, .ldl (.t 6) (some 2), some (51, true)⟩,
            ⟨some 54, .call 37 [(.t 52), (.t 53)], some (51, true)⟩,
            ⟨some 55, .bin .leq (.t 54) (.c (.d (.int .i64 0))), some (51, true)⟩,
            ⟨some 56, .pick (.t 51) (.t 55) (.c (.d (.bool false))), none⟩,
            ⟨some 57, .mv (.t 56), none⟩,
            ⟨some 58, .ldl (.t 4) (some 2), some (57, true)⟩,
            ⟨some 59, .ldl (.t 6) (some 2), some (57, true)⟩,
            ⟨some 60, .call 37 [(.t 58), (.t 59)], some (57, true)⟩,
            ⟨some 61, .bin .gtr (.t 60) (.c (.d (.int .i64 0))), some (57, true)⟩,
            ⟨some 62, .pick (.t 57) (.t 61) (.c (.d (.bool false))), none⟩] [62])
        (.cond (.t 62) (.seq (.reg [⟨some 8, .mv (.c (.d (.bool false))), none⟩] [8])
          .ret)
         .skip))
       (.seq (.reg [⟨some 63, .call 22 [], none⟩,
            ⟨some 8, .mv (.t 63), none⟩] [8])
        .ret))))))

def t_law19_FormCompares : List (List Nat × PT) := [([3, 4, 5, 6], .done), ([3, 4, 5, 6, 15], .done), ([8], .done), ([3, 4, 5, 6, 9], .done), ([4, 5, 6, 9, 48], (.one 0 (.one 1 (.one 2 (.one 3 (.one 4 (.one 5 (.one 6 (.one 7 (.one 8 (.one 9 (.one 10 (.one 11 (.one 12 (.one 13 (.one 14 (.one 15 (.one 16 (.one 17 (.one 18 (.one 19 (.one 20 (.one 21 (.one 22 (.one 23 (.one 25 (.one 26 (.one 24 (.one 27 (.one 28 (.one 29 .done))))))))))))))))))))))))))))))), ([8], .done), ([62], .done), ([8], .done), ([8], .done)]

noncomputable def x_law19_FormCompares : Cx := ⟨Tryd.prog, 9, Tryd.f9, 64, [300010, 300011, 300012, 300016, 300017, 300020, 300021, 300026, 300027, 300035, 300036, 300041, 300044, 300052, 300053, 300058, 300059], [], [.t 8]⟩
theorem g_law19_FormCompares : Good x_law19_FormCompares := ⟨Tryd.func9, by kernel_rfl⟩
theorem rs_law19_FormCompares : x_law19_FormCompares.rs = [.t 8] := rfl
theorem k_law19_FormCompares : compC Tryd.prog 64 [300010, 300011, 300012, 300016, 300017, 300020, 300021, 300026, 300027, 300035, 300036, 300041, 300044, 300052, 300053, 300058, 300059] [] (Tryd.f9.body.getD .skip) t_law19_FormCompares = some (c_law19_FormCompares, []) := by kernel_rfl
theorem b_law19_FormCompares : Tryd.f9.body = some (Tryd.f9.body.getD .skip) := by kernel_rfl
theorem i_law19_FormCompares {args : List AV} {σ : Heap} {K : AV → Heap → Prop} (hl : args.length ≤ 64) (h : Run x_law19_FormCompares K [.code c_law19_FormCompares] (argF args) E σ) : ACalls Tryd.prog 9 args σ K :=
  acalls_of (cx := x_law19_FormCompares) g_law19_FormCompares b_law19_FormCompares Tryd.ntmps9 hl (compC_rc x_law19_FormCompares _ _ _ _ k_law19_FormCompares) h

/-! ### amortcost/amortcostlaw19.FormSubstitutes -/
def c_law19_FormSubstitutes : C := (.seq (.reg [⟨some 3, .box (.t 0) false, none⟩,
       ⟨some 6, .mv (.c (.d (.bool false))), none⟩] [1, 2, 3])
   (.seq (.seq (.reg [⟨some 11, .ldl (.t 3) (some 2), none⟩,
         ⟨some 12, .call 36 [(.t 11)], none⟩,
         ⟨some 13, .un .not (.t 12), none⟩,
         ⟨some 14, .mv (.t 13), none⟩,
         ⟨some 15, .mv (.t 1), some (14, false)⟩,
         ⟨some 16, .len (.t 15), some (14, false)⟩,
         ⟨some 17, .bin .gtr (.t 16) (.c (.d (.int .i64 8))), some (14, false)⟩,
         ⟨some 18, .pick (.t 14) (.c (.d (.bool true))) (.t 17), none⟩,
         ⟨some 19, .mv (.t 18), none⟩,
         ⟨some 20, .mv (.t 2), some (19, false)⟩,
         ⟨some 21, .call 23 [(.t 20)], some (19, false)⟩,
         ⟨some 22, .un .not (.t 21), some (19, false)⟩,
         ⟨some 23, .pick (.t 19) (.c (.d (.bool true))) (.t 22), none⟩] [1, 2, 3, 23])
     (.cond (.t 23) (.seq (.reg [⟨some 6, .mv (.c (.d (.bool true))), none⟩] [6])
       .ret)
      .skip))
    (.seq (.reg [⟨some 25, .ldl (.t 3) (some 2), none⟩,
         ⟨some 26, .mv (.t 1), none⟩,
         ⟨some 27, .mv (.t 2), none⟩,
         ⟨some 28, .call 41 [(.t 25), (.t 26), (.t 27)], none⟩,
         ⟨some 24, .mv (.t 28), none⟩,
         ⟨some 29, .ext (.t 24) 0, none⟩,
         ⟨some 30, .ext (.t 24) 1, none⟩,
         ⟨some 7, .al [(.d (.int .i64 0)), .nils] false, none⟩,
         ⟨none, .st (.t 7) (.t 29) 2, none⟩,
         ⟨some 8, .mv (.t 30), none⟩] [1, 2, 3, 7, 8])
     (.seq (.reg [⟨some 32, .ldl (.t 3) (some 2), none⟩,
          ⟨some 33, .mv (.t 1), none⟩,
          ⟨some 34, .mv (.t 2), none⟩,
          ⟨some 35, .call 42 [(.t 32), (.t 33), (.t 34)], none⟩,
          ⟨some 31, .mv (.t 35), none⟩,
          ⟨some 36, .ext (.t 31) 0, none⟩,
          ⟨some 37, .ext (.t 31) 1, none⟩,
          ⟨some 9, .al [(.d (.int .i64 0)), .nils] false, none⟩,
          ⟨none, .st (.t 9) (.t 36) 2, none⟩,
          ⟨some 10, .mv (.t 37), none⟩] [7, 8, 9, 10])
      (.seq (.reg [⟨some 38, .mv (.t 8), none⟩,
           ⟨some 39, .mv (.t 10), none⟩,
           ⟨some 40, .bin .eql (.t 38) (.t 39), none⟩,
           ⟨some 41, .mv (.t 40), none⟩,
           ⟨some 42, .ldl (.t 7) (some 2), some (41, true)⟩,
           ⟨some 43, .ldl (.t 9) (some 2), some (41, true)⟩,
           ⟨some 44, .call 17 [(.t 42), (.t 43)], some (41, true)⟩,
           ⟨some 45, .pick (.t 41) (.t 44) (.c (.d (.bool false))), none⟩,
           ⟨some 46, .mv (.t 45), none⟩,
           ⟨some 47, .call 22 [], some (46, true)⟩,
           ⟨some 48, .pick (.t 46) (.t 47) (.c (.d (.bool false))), none⟩,
           ⟨some 6, .mv (.t 48), none⟩] [6])
       .ret)))))

def t_law19_FormSubstitutes : List (List Nat × PT) := [([1, 2, 3], .done), ([1, 2, 3, 23], .done), ([6], .done), ([1, 2, 3, 7, 8], .done), ([7, 8, 9, 10], .done), ([6], .done)]

noncomputable def x_law19_FormSubstitutes : Cx := ⟨Tryd.prog, 10, Tryd.f10, 49, [300011, 300025, 300032, 300042, 300043], [], [.t 6]⟩
theorem g_law19_FormSubstitutes : Good x_law19_FormSubstitutes := ⟨Tryd.func10, by kernel_rfl⟩
theorem rs_law19_FormSubstitutes : x_law19_FormSubstitutes.rs = [.t 6] := rfl
theorem k_law19_FormSubstitutes : compC Tryd.prog 49 [300011, 300025, 300032, 300042, 300043] [] (Tryd.f10.body.getD .skip) t_law19_FormSubstitutes = some (c_law19_FormSubstitutes, []) := by kernel_rfl
theorem b_law19_FormSubstitutes : Tryd.f10.body = some (Tryd.f10.body.getD .skip) := by kernel_rfl
theorem i_law19_FormSubstitutes {args : List AV} {σ : Heap} {K : AV → Heap → Prop} (hl : args.length ≤ 49) (h : Run x_law19_FormSubstitutes K [.code c_law19_FormSubstitutes] (argF args) E σ) : ACalls Tryd.prog 10 args σ K :=
  acalls_of (cx := x_law19_FormSubstitutes) g_law19_FormSubstitutes b_law19_FormSubstitutes Tryd.ntmps10 hl (compC_rc x_law19_FormSubstitutes _ _ _ _ k_law19_FormSubstitutes) h

/-! ### amortcost/amortcostkeep.SameLin -/
/- slots of c_keep_SameLin_L0 : [2, 3, 22, 23] -/
def c_keep_SameLin_L0 : C := (.seq (.reg [⟨some 24, .bin .lss (.t 23) (.t 22), none⟩] [2, 3, 22, 23, 24])
   (.seq (.cond (.t 24) .skip
     (.exit 0))
    (.seq (.block 1 (.seq (.reg [⟨some 25, .mv (.t 23), none⟩,
           ⟨some 5, .mv (.t 25), none⟩] [2, 3, 5, 22, 23])
       (.seq (.reg [⟨some 26, .fld (.t 2) 1, none⟩,
            ⟨some 27, .ldl (.t 26) none, none⟩,
            ⟨some 28, .mv (.t 5), none⟩,
            ⟨some 29, .ix (.t 27) (.t 28) 2, none⟩,
            ⟨some 30, .ld (.t 29) (some 2), none⟩,
            ⟨some 31, .fld (.t 3) 1, none⟩,
            ⟨some 32, .ldl (.t 31) none, none⟩,
            ⟨some 33, .mv (.t 5), none⟩,
            ⟨some 34, .ix (.t 32) (.t 33) 2, none⟩,
            ⟨some 35, .ld (.t 34) (some 2), none⟩,
            ⟨some 36, .steq true 2 (.t 30) (.t 35), none⟩] [2, 3, 22, 23, 36])
        (.cond (.t 36) (.seq (.reg [⟨some 4, .mv (.c (.d (.bool false))), none⟩] [4])
          .ret)
         .skip))))
     (.reg [⟨some 37, .bin .add (.t 23) (.c (.d (.int .i64 1))), none⟩,
         ⟨some 23, .mv (.t 37), none⟩] [2, 3, 22, 23]))))

def c_keep_SameLin : C := (.seq (.reg [⟨some 2, .box (.t 0) false, none⟩,
       ⟨some 3, .box (.t 1) false, none⟩,
       ⟨some 4, .mv (.c (.d (.bool false))), none⟩] [2, 3])
   (.seq (.seq (.reg [⟨some 6, .fld (.t 2) 0, none⟩,
         ⟨some 7, .ldl (.t 6) none, none⟩,
         ⟨some 8, .fld (.t 3) 0, none⟩,
         ⟨some 9, .ldl (.t 8) none, none⟩,
         ⟨some 10, .bin .neq (.t 7) (.t 9), none⟩,
         ⟨some 11, .mv (.t 10), none⟩,
         ⟨some 12, .fld (.t 2) 1, some (11, false)⟩,
         ⟨some 13, .ldl (.t 12) none, some (11, false)⟩,
         ⟨some 14, .len (.t 13), some (11, false)⟩,
         ⟨some 15, .fld (.t 3) 1, some (11, false)⟩,
         ⟨some 16, .ldl (.t 15) none, some (11, false)⟩,
         ⟨some 17, .len (.t 16), some (11, false)⟩,
         ⟨some 18, .bin .neq (.t 14) (.t 17), some (11, false)⟩,
         ⟨some 19, .pick (.t 11) (.c (.d (.bool true))) (.t 18), none⟩] [2, 3, 19])
     (.cond (.t 19) (.seq (.reg [⟨some 4, .mv (.c (.d (.bool false))), none⟩] [4])
       .ret)
      .skip))
    (.seq (.seq (.reg [⟨some 20, .fld (.t 2) 1, none⟩,
          ⟨some 21, .ldl (.t 20) none, none⟩,
          ⟨some 22, .len (.t 21), none⟩,
          ⟨some 23, .mv (.c (.d (.int .i64 0))), none⟩] [2, 3, 22, 23])
      (.block 0 (.loop c_keep_SameLin_L0)))
     (.seq (.reg [⟨some 4, .mv (.c (.d (.bool true))), none⟩] [4])
      .ret))))

def t_keep_SameLin : List (List Nat × PT) := [([2, 3], .done), ([2, 3, 19], .done), ([4], .done), ([2, 3, 22, 23], .done), ([2, 3, 22, 23, 24], .done), ([2, 3, 5, 22, 23], .done), ([2, 3, 22, 23, 36], .done), ([4], .done), ([2, 3, 22, 23], .done), ([4], .done)]

noncomputable def x_keep_SameLin : Cx := ⟨Tryd.prog, 17, Tryd.f17, 38, [300007, 300009, 300013, 300016, 300021, 300027, 300032], [], [.t 4]⟩
theorem g_keep_SameLin : Good x_keep_SameLin := ⟨Tryd.func17, by kernel_rfl⟩
theorem rs_keep_SameLin : x_keep_SameLin.rs = [.t 4] := rfl
theorem k_keep_SameLin : compC Tryd.prog 38 [300007, 300009, 300013, 300016, 300021, 300027, 300032] [] (Tryd.f17.body.getD .skip) t_keep_SameLin = some (c_keep_SameLin, []) := by kernel_rfl
theorem b_keep_SameLin : Tryd.f17.body = some (Tryd.f17.body.getD .skip) := by kernel_rfl
theorem i_keep_SameLin {args : List AV} {σ : Heap} {K : AV → Heap → Prop} (hl : args.length ≤ 38) (h : Run x_keep_SameLin K [.code c_keep_SameLin] (argF args) E σ) : ACalls Tryd.prog 17 args σ K :=
  acalls_of (cx := x_keep_SameLin) g_keep_SameLin b_keep_SameLin Tryd.ntmps17 hl (compC_rc x_keep_SameLin _ _ _ _ k_keep_SameLin) h

/-! ### amortcost/linear.Const -/
def c_linear_Const : C := (.seq (.reg [⟨some 2, .al [(.d (.int .i64 0)), .nils] false, none⟩] [0, 2])
   (.seq (.seq (.reg [⟨some 3, .mv (.t 0), none⟩,
         ⟨some 4, .call 49 [(.t 3)], none⟩,
         ⟨some 5, .un .not (.t 4), none⟩] [0, 2, 5])
     (.cond (.t 5) (.seq (.reg [⟨some 6, .bld [(.d (.int .i64 0)), .nils] [], none⟩,
           ⟨none, .st (.t 2) (.t 6) 2, none⟩] [2])
       .ret)
      .skip))
    (.seq (.reg [⟨some 7, .mv (.t 0), none⟩,
         ⟨some 8, .bld [(.d (.int .i64 0)), .nils] [(0, 1, (.t 7))], none⟩,
         ⟨none, .st (.t 2) (.t 8) 2, none⟩] [2])
     .ret)))

def t_linear_Const : List (List Nat × PT) := [([0, 2], .done), ([0, 2, 5], .done), ([2], .done), ([2], .done)]

noncomputable def x_linear_Const : Cx := ⟨Tryd.prog, 18, Tryd.f18, 9, [], [], [.c 2 (some 2)]⟩
theorem g_linear_Const : Good x_linear_Const := ⟨Tryd.func18, by kernel_rfl⟩
theorem rs_linear_Const : x_linear_Const.rs = [.c 2 (some 2)] := rfl
theorem k_linear_Const : compC Tryd.prog 9 [] [] (Tryd.f18.body.getD .skip) t_linear_Const = some (c_linear_Const, []) := by kernel_rfl
theorem b_linear_Const : Tryd.f18.body = some (Tryd.f18.body.getD .skip) := by kernel_rfl
theorem i_linear_Const {args : List AV} {σ : Heap} {K : AV → Heap → Prop} (hl : args.length ≤ 9) (h : Run x_linear_Const K [.code c_linear_Const] (argF args) E σ) : ACalls Tryd.prog 18 args σ K :=
  acalls_of (cx := x_linear_Const) g_linear_Const b_linear_Const Tryd.ntmps18 hl (compC_rc x_linear_Const _ _ _ _ k_linear_Const) h

/-! ### amortcost/amortcostref19.Const -/
def c_r19_Const : C := (.seq (.reg [⟨some 2, .al [(.d (.int .i64 0)), .nils] false, none⟩] [0, 2])
   (.seq (.seq (.reg [⟨some 3, .mv (.t 0), none⟩,
         ⟨some 4, .bin .lss (.t 3) (.c (.d (.int .i64 (-1048576)))), none⟩,
         ⟨some 5, .mv (.t 4), none⟩,
         ⟨some 6, .mv (.t 0), some (5, false)⟩,
         ⟨some 7, .bin .gtr (.t 6) (.c (.d (.int .i64 1048576))), some (5, false)⟩,
         ⟨some 8, .pick (.t 5) (.c (.d (.bool true))) (.t 7), none⟩] [0, 2, 8])
     (.cond (.t 8) (.seq (.reg [⟨some 9, .bld [(.d (.int .i64 0)), .nils] [], none⟩,
           ⟨none, .st (.t 2) (.t 9) 2, none⟩] [2])
       .ret)
      .skip))
    (.seq (.reg [⟨some 10, .mv (.t 0), none⟩,
         ⟨some 11, .bld [(.d (.int .i64 0)), .nils] [(0, 1, (.t 10))], none⟩,
         ⟨none, .st (.t 2) (.t 11) 2, none⟩] [2])
     .ret)))

def t_r19_Const : List (List Nat × PT) := [([0, 2], .done), ([0, 2, 8], .done), ([2], .done), ([2], .done)]

noncomputable def x_r19_Const : Cx := ⟨Tryd.prog, 19, Tryd.f19, 12, [], [], [.c 2 (some 2)]⟩
theorem g_r19_Const : Good x_r19_Const := ⟨Tryd.func19, by kernel_rfl⟩
theorem rs_r19_Const : x_r19_Const.rs = [.c 2 (some 2)] := rfl
theorem k_r19_Const : compC Tryd.prog 12 [] [] (Tryd.f19.body.getD .skip) t_r19_Const = some (c_r19_Const, []) := by kernel_rfl
theorem b_r19_Const : Tryd.f19.body = some (Tryd.f19.body.getD .skip) := by kernel_rfl
theorem i_r19_Const {args : List AV} {σ : Heap} {K : AV → Heap → Prop} (hl : args.length ≤ 12) (h : Run x_r19_Const K [.code c_r19_Const] (argF args) E σ) : ACalls Tryd.prog 19 args σ K :=
  acalls_of (cx := x_r19_Const) g_r19_Const b_r19_Const Tryd.ntmps19 hl (compC_rc x_r19_Const _ _ _ _ k_r19_Const) h

/-! ### amortcost/linear.Variable -/
def c_linear_Variable : C := (.seq (.reg [⟨some 2, .al [(.d (.int .i64 0)), .nils] false, none⟩] [0, 2])
   (.seq (.seq (.reg [⟨some 3, .mv (.t 0), none⟩,
         ⟨some 4, .call 50 [(.t 3)], none⟩,
         ⟨some 5, .un .not (.t 4), none⟩] [0, 2, 5])
     (.cond (.t 5) (.seq (.reg [⟨some 6, .bld [(.d (.int .i64 0)), .nils] [], none⟩,
           ⟨none, .st (.t 2) (.t 6) 2, none⟩] [2])
       .ret)
      .skip))
    (.seq (.reg [⟨some 7, .mv (.t 0), none⟩,
         ⟨some 8, .bld [(.d (.int .i64 0)), (.d (.int .i64 0))] [(0, 1, (.t 7)), (1, 1, (.c (.d (.int .i64 1))))], none⟩,
         ⟨some 9, .bsl 2 1 [(.d (.int .i64 0)), (.d (.int .i64 0))] [(0, 2, (.t 8))], none⟩,
         ⟨some 10, .bld [(.d (.int .i64 0)), .nils] [(1, 1, (.t 9))], none⟩,
         ⟨none, .st (.t 2) (.t 10) 2, none⟩] [2])
     .ret)))

def t_linear_Variable : List (List Nat × PT) := [([0, 2], .done), ([0, 2, 5], .done), ([2], .done), ([2], .done)]

noncomputable def x_linear_Variable : Cx := ⟨Tryd.prog, 20, Tryd.f20, 11, [], [], [.c 2 (some 2)]⟩
theorem g_linear_Variable : Good x_linear_Variable := ⟨Tryd.func20, by kernel_rfl⟩
theorem rs_linear_Variable : x_linear_Variable.rs = [.c 2 (some 2)] := rfl
theorem k_linear_Variable : compC Tryd.prog 11 [] [] (Tryd.f20.body.getD .skip) t_linear_Variable = some (c_linear_Variable, []) := by kernel_rfl
theorem b_linear_Variable : Tryd.f20.body = some (Tryd.f20.body.getD .skip) := by kernel_rfl
theorem i_linear_Variable {args : List AV} {σ : Heap} {K : AV → Heap → Prop} (hl : args.length ≤ 11) (h : Run x_linear_Variable K [.code c_linear_Variable] (argF args) E σ) : ACalls Tryd.prog 20 args σ K :=
  acalls_of (cx := x_linear_Variable) g_linear_Variable b_linear_Variable Tryd.ntmps20 hl (compC_rc x_linear_Variable _ _ _ _ k_linear_Variable) h

/-! ### amortcost/amortcostref19.Variable -/
def c_r19_Variable : C := (.seq (.reg [⟨some 2, .al [(.d (.int .i64 0)), .nils] false, none⟩] [0, 2])
   (.seq (.seq (.reg [⟨some 3, .mv (.t 0), none⟩,
         ⟨some 4, .bin .lss (.t 3) (.c (.d (.int .i64 (-1)))), none⟩,
         ⟨some 5, .mv (.t 4), none⟩,
         ⟨some 6, .mv (.t 0), some (5, false)⟩,
         ⟨some 7, .bin .geq (.t 6) (.c (.d (.int .i64 3000))), some (5, false)⟩,
         ⟨some 8, .pick (.t 5) (.c (.d (.bool true))) (.t 7), none⟩] [0, 2, 8])
     (.cond (.t 8) (.seq (.reg [⟨some 9, .bld [(.d (.int .i64 0)), .nils] [], none⟩,
           ⟨none, .st (.t 2) (.t 9) 2, none⟩] [2])
       .ret)
      .skip))
    (.seq (.reg [⟨some 10, .mv (.t 0), none⟩,
         ⟨some 11, .bld [(.d (.int .i64 0)), (.d (.int .i64 0))] [(0, 1, (.t 10)), (1, 1, (.c (.d (.int .i64 1))))], none⟩,
         ⟨some 12, .bsl 2 1 [(.d (.int .i64 0)), (.d (.int .i64 0))] [(0, 2, (.t 11))], none⟩,
         ⟨some 13, .bld [(.d (.int .i64 0)), .nils] [(1, 1, (.t 12))], none⟩,
         ⟨none, .st (.t 2) (.t 13) 2, none⟩] [2])
     .ret)))

def t_r19_Variable : List (List Nat × PT) := [([0, 2], .done), ([0, 2, 8], .done), ([2], .done), ([2], .done)]

noncomputable def x_r19_Variable : Cx := ⟨Tryd.prog, 21, Tryd.f21, 14, [], [], [.c 2 (some 2)]⟩
theorem g_r19_Variable : Good x_r19_Variable := ⟨Tryd.func21, by kernel_rfl⟩
theorem rs_r19_Variable : x_r19_Variable.rs = [.c 2 (some 2)] := rfl
theorem k_r19_Variable : compC Tryd.prog 14 [] [] (Tryd.f21.body.getD .skip) t_r19_Variable = some (c_r19_Variable, []) := by kernel_rfl
theorem b_r19_Variable : Tryd.f21.body = some (Tryd.f21.body.getD .skip) := by kernel_rfl
theorem i_r19_Variable {args : List AV} {σ : Heap} {K : AV → Heap → Prop} (hl : args.length ≤ 14) (h : Run x_r19_Variable K [.code c_r19_Variable] (argF args) E σ) : ACalls Tryd.prog 21 args σ K :=
  acalls_of (cx := x_r19_Variable) g_r19_Variable b_r19_Variable Tryd.ntmps21 hl (compC_rc x_r19_Variable _ _ _ _ k_r19_Variable) h

/-! ### amortcost/amortcostlaw19.awake -/
def c_law19_awake : C := (.seq (.reg [⟨some 0, .mv (.c (.d (.bool false))), none⟩] [])
   (.seq (.reg [⟨some 6, .call 20 [(.c (.d (.int .i64 1)))], none⟩,
        ⟨some 7, .call 20 [(.c (.d (.int .i64 2)))], none⟩,
        ⟨some 8, .call 29 [(.t 6), (.t 7)], none⟩,
        ⟨some 5, .mv (.t 8), none⟩,
        ⟨some 9, .ext (.t 5) 0, none⟩,
        ⟨some 10, .ext (.t 5) 1, none⟩,
        ⟨some 1, .al [(.d (.int .i64 0)), .nils] false, none⟩,
        ⟨none, .st (.t 1) (.t 9) 2, none⟩,
        ⟨some 2, .mv (.t 10), none⟩] [1, 2])
    (.seq (.reg [⟨some 3, .al [(.d (.int .i64 0)), .nils] false, none⟩,
         ⟨some 12, .ldl (.t 1) (some 2), none⟩,
         ⟨some 13, .call 18 [(.c (.d (.int .i64 3)))], none⟩,
         ⟨some 14, .call 27 [(.t 12), (.t 13)], none⟩,
         ⟨some 11, .mv (.t 14), none⟩,
         ⟨some 15, .ext (.t 11) 0, none⟩,
         ⟨some 16, .ext (.t 11) 1, none⟩,
         ⟨none, .st (.t 3) (.t 15) 2, none⟩,
         ⟨some 4, .mv (.t 16), none⟩] [2, 3, 4])
     (.seq (.reg [⟨some 17, .mv (.t 2), none⟩,
          ⟨some 18, .bin .eql (.t 17) (.c (.d (.int .i64 0))), none⟩,
          ⟨some 19, .mv (.t 18), none⟩,
          ⟨some 20, .mv (.t 4), some (19, true)⟩,
          ⟨some 21, .bin .eql (.t 20) (.c (.d (.int .i64 0))), some (19, true)⟩,
          ⟨some 22, .pick (.t 19) (.t 21) (.c (.d (.bool false))), none⟩,
          ⟨some 23, .mv (.t 22), none⟩,
          ⟨some 24, .ldl (.t 3) (some 2), some (23, true)⟩,
          ⟨some 25, .call 24 [(.t 24)], some (23, true)⟩,
          ⟨some 26, .bin .eql (.t 25) (.c (.d (.str [118, 49, 32, 45, 32, 118, 50, 32, 43, 32, 51]))), some (23, true)⟩,
          ⟨some 27, .pick (.t 23) (.t 26) (.c (.d (.bool false))), none⟩,
          ⟨some 0, .mv (.t 27), none⟩] [0])
      .ret))))

def t_law19_awake : List (List Nat × PT) := [([], .done), ([1, 2], .done), ([2, 3, 4], (.lay 6 (.one 0 (.one 1 (.one 2 (.one 3 (.one 4 (.one 5 (.one 7 (.one 8 .done)))))))))), ([0], .done)]

noncomputable def x_law19_awake : Cx := ⟨Tryd.prog, 22, Tryd.f22, 28, [300012, 300024], [], [.t 0]⟩
theorem g_law19_awake : Good x_law19_awake := ⟨Tryd.func22, by kernel_rfl⟩
theorem rs_law19_awake : x_law19_awake.rs = [.t 0] := rfl
theorem k_law19_awake : compC Tryd.prog 28 [300012, 300024] [] (Tryd.f22.body.getD .skip) t_law19_awake = some (c_law19_awake, []) := by kernel_rfl
theorem b_law19_awake : Tryd.f22.body = some (Tryd.f22.body.getD .skip) := by kernel_rfl
theorem i_law19_awake {args : List AV} {σ : Heap} {K : AV → Heap → Prop} (hl : args.length ≤ 28) (h : Run x_law19_awake K [.code c_law19_awake] (argF args) E σ) : ACalls Tryd.prog 22 args σ K :=
  acalls_of (cx := x_law19_awake) g_law19_awake b_law19_awake Tryd.ntmps22 hl (compC_rc x_law19_awake _ _ _ _ k_law19_awake) h

/-! ### amortcost/amortcostlaw19.small -/
/- slots of c_law19_small_L0 : [0, 3] -/
def c_law19_small_L0 : C := (.seq (.seq (.reg [⟨some 4, .mv (.t 3), none⟩,
        ⟨some 5, .mv (.t 0), none⟩,
        ⟨some 6, .len (.t 5), none⟩,
        ⟨some 7, .bin .lss (.t 4) (.t 6), none⟩,
        ⟨some 8, .mv (.t 7), none⟩,
        ⟨some 9, .mv (.t 3), some (8, true)⟩,
        ⟨some 10, .bin .lss (.t 9) (.c (.d (.int .i64 9))), some (8, true)⟩,
        ⟨some 11, .pick (.t 8) (.t 10) (.c (.d (.bool false))), none⟩] [0, 3, 11])
    (.cond (.t 11) .skip
     (.exit 0)))
   (.seq (.block 1 (.seq (.reg [⟨some 14, .mv (.t 0), none⟩,
          ⟨some 15, .mv (.t 3), none⟩,
          ⟨some 16, .ix (.t 14) (.t 15) 2, none⟩,
          ⟨some 17, .ld (.t 16) (some 2), none⟩,
          ⟨some 18, .call 36 [(.t 17)], none⟩,
          ⟨some 19, .un .not (.t 18), none⟩] [0, 3, 19])
      (.cond (.t 19) (.seq (.reg [⟨some 2, .mv (.c (.d (.bool false))), none⟩] [2])
        .ret)
       .skip)))
    (.reg [⟨some 12, .mv (.t 3), none⟩,
        ⟨some 13, .bin .add (.t 12) (.c (.d (.int .i64 1))), none⟩,
        ⟨some 3, .mv (.t 13), none⟩] [0, 3])))

def c_law19_small : C := (.seq (.reg [⟨some 2, .mv (.c (.d (.bool false))), none⟩] [0])
   (.seq (.seq (.reg [⟨some 3, .mv (.c (.d (.int .i64 0))), none⟩] [0, 3])
     (.block 0 (.loop c_law19_small_L0)))
    (.seq (.reg [⟨some 20, .mv (.t 0), none⟩,
         ⟨some 21, .len (.t 20), none⟩,
         ⟨some 22, .bin .leq (.t 21) (.c (.d (.int .i64 8))), none⟩,
         ⟨some 2, .mv (.t 22), none⟩] [2])
     .ret)))

def t_law19_small : List (List Nat × PT) := [([0], .done), ([0, 3], .done), ([0, 3, 11], .done), ([0, 3, 19], .done), ([2], .done), ([0, 3], .done), ([2], .done)]

noncomputable def x_law19_small : Cx := ⟨Tryd.prog, 23, Tryd.f23, 23, [], [], [.t 2]⟩
theorem g_law19_small : Good x_law19_small := ⟨Tryd.func23, by kernel_rfl⟩
theorem rs_law19_small : x_law19_small.rs = [.t 2] := rfl
theorem k_law19_small : compC Tryd.prog 23 [] [] (Tryd.f23.body.getD .skip) t_law19_small = some (c_law19_small, []) := by kernel_rfl
theorem b_law19_small : Tryd.f23.body = some (Tryd.f23.body.getD .skip) := by kernel_rfl
theorem i_law19_small {args : List AV} {σ : Heap} {K : AV → Heap → Prop} (hl : args.length ≤ 23) (h : Run x_law19_small K [.code c_law19_small] (argF args) E σ) : ACalls Tryd.prog 23 args σ K :=
  acalls_of (cx := x_law19_small) g_law19_small b_law19_small Tryd.ntmps23 hl (compC_rc x_law19_small _ _ _ _ k_law19_small) h

/-! ### amortcost/linear.Format -/
/- slots of c_linear_Format_L0 : [1, 3, 11, 12, 13] -/
def c_linear_Format_L0 : C := (.seq (.reg [⟨some 14, .bin .lss (.t 13) (.t 12), none⟩] [1, 3, 11, 12, 13, 14])
   (.seq (.cond (.t 14) .skip
     (.exit 0))
    (.seq (.block 1 (.seq (.reg [⟨some 15, .mv (.t 13), none⟩,
           ⟨some 16, .ix (.t 11) (.t 13) 2, none⟩,
           ⟨some 17, .ld (.t 16) (some 2), none⟩,
           ⟨some 5, .al [(.d (.int .i64 0)), (.d (.int .i64 0))] false, none⟩,
           ⟨some 4, .mv (.t 15), none⟩,
           ⟨none, .st (.t 5) (.t 17) 2, none⟩] [1, 3, 4, 5, 11, 12, 13])
       (.seq (.reg [⟨some 18, .fld (.t 5) 1, none⟩,
            ⟨some 19, .ldl (.t 18) none, none⟩,
            ⟨some 20, .mv (.t 4), none⟩,
            ⟨some 21, .bin .eql (.t 20) (.c (.d (.int .i64 0))), none⟩,
            ⟨some 22, .call 51 [(.t 3), (.t 19), (.t 21)], none⟩,
            ⟨some 6, .mv (.t 22), none⟩] [1, 3, 5, 6, 11, 12, 13])
        (.seq (.seq (.reg [⟨some 23, .mv (.t 6), none⟩,
              ⟨some 24, .bin .neq (.t 23) (.c (.d (.int .i64 1))), none⟩] [1, 3, 5, 6, 11, 12, 13, 24])
          (.cond (.t 24) (.reg [⟨some 25, .mv (.t 6), none⟩,
               ⟨some 26, .call 53 [(.t 25), (.c (.d (.int .i64 10)))], none⟩,
               ⟨some 27, .bin .add (.t 26) (.c (.d (.str [42]))), none⟩,
               ⟨some 28, .call 52 [(.t 3), (.t 27)], none⟩] [1, 3, 5, 11, 12, 13])
           .skip))
         (.seq (.reg [⟨some 29, .fld (.t 5) 0, none⟩,
              ⟨some 30, .ldl (.t 29) none, none⟩,
              ⟨some 31, .bin .eql (.t 30) (.c (.d (.int .i64 (-1)))), none⟩] [1, 3, 5, 11, 12, 13, 31])
          (.cond (.t 31) (.reg [⟨some 32, .call 52 [(.t 3), (.c (.d (.str [114, 101, 115])))], none⟩] [1, 3, 11, 12, 13])
           (.reg [⟨some 33, .fld (.t 5) 0, none⟩,
               ⟨some 34, .ldl (.t 33) none, none⟩,
               ⟨some 35, .call 54 [(.t 34)], none⟩,
               ⟨some 36, .bin .add (.c (.d (.str [118]))) (.t 35), none⟩,
               ⟨some 37, .call 52 [(.t 3), (.t 36)], none⟩] [1, 3, 11, 12, 13])))))))
     (.reg [⟨some 38, .bin .add (.t 13) (.c (.d (.int .i64 1))), none⟩,
         ⟨some 13, .mv (.t 38), none⟩] [1, 3, 11, 12, 13]))))

def c_linear_Format : C := (.seq (.reg [⟨some 1, .box (.t 0) false, none⟩,
       ⟨some 2, .mv (.c (.d (.str []))), none⟩] [1])
   (.seq (.seq (.reg [⟨some 7, .ldl (.t 1) (some 2), none⟩,
         ⟨some 8, .call 35 [(.t 7)], none⟩,
         ⟨some 9, .un .not (.t 8), none⟩] [1, 9])
     (.cond (.t 9) (.seq (.reg [⟨some 2, .mv (.c (.d (.str []))), none⟩] [2])
       .ret)
      .skip))
    (.seq (.reg [⟨some 3, .ex (.alt 73 [.nilp, .nils]) [], none⟩] [1, 3])
     (.seq (.seq (.reg [⟨some 10, .fld (.t 1) 1, none⟩,
           ⟨some 11, .ldl (.t 10) none, none⟩,
           ⟨some 12, .len (.t 11), none⟩,
           ⟨some 13, .mv (.c (.d (.int .i64 0))), none⟩] [1, 3, 11, 12, 13])
       (.block 0 (.loop c_linear_Format_L0)))
      (.seq (.seq (.reg [⟨some 39, .fld (.t 1) 0, none⟩,
            ⟨some 40, .ldl (.t 39) none, none⟩,
            ⟨some 41, .bin .neq (.t 40) (.c (.d (.int .i64 0))), none⟩,
            ⟨some 42, .mv (.t 41), none⟩,
            ⟨some 43, .fld (.t 1) 1, some (42, false)⟩,
            ⟨some 44, .ldl (.t 43) none, some (42, false)⟩,
            ⟨some 45, .len (.t 44), some (42, false)⟩,
            ⟨some 46, .bin .eql (.t 45) (.c (.d (.int .i64 0))), some (42, false)⟩,
            ⟨some 47, .pick (.t 42) (.c (.d (.bool true))) (.t 46), none⟩] [1, 3, 47])
        (.cond (.t 47) (.reg [⟨some 48, .fld (.t 1) 0, none⟩,
             ⟨some 49, .ldl (.t 48) none, none⟩,
             ⟨some 50, .fld (.t 1) 1, none⟩,
             ⟨some 51, .ldl (.t 50) none, none⟩,
             ⟨some 52, .len (.t 51), none⟩,
             ⟨some 53, .bin .eql (.t 52) (.c (.d (.int .i64 0))), none⟩,
             ⟨some 54, .call 51 [(.t 3), (.t 49), (.t 53)], none⟩,
             ⟨some 55, .call 53 [(.t 54), (.c (.d (.int .i64 10)))], none⟩,
             ⟨some 56, .call 52 [(.t 3), (.t 55)], none⟩] [3])
         .skip))
       (.seq (.reg [⟨some 57, .call 55 [(.t 3)], none⟩,
            ⟨some 2, .mv (.t 57), none⟩] [2])
        .ret))))))

def t_linear_Format : List (List Nat × PT) := [([1], .done), ([1, 9], .done), ([2], .done), ([1, 3], .done), ([1, 3, 11, 12, 13], .done), ([1, 3, 11, 12, 13, 14], .done), ([1, 3, 4, 5, 11, 12, 13], .done), ([1, 3, 5, 6, 11, 12, 13], .done), ([1, 3, 5, 6, 11, 12, 13, 24], .done), ([1, 3, 5, 11, 12, 13], .done), ([1, 3, 5, 11, 12, 13, 31], .done), ([1, 3, 11, 12, 13], .done), ([1, 3, 11, 12, 13], .done), ([1, 3, 11, 12, 13], .done), ([1, 3, 47], .done), ([3], .done), ([2], .done)]

noncomputable def x_linear_Format : Cx := ⟨Tryd.prog, 24, Tryd.f24, 58, [3, 300007, 300011, 300019, 300030, 300034, 300040, 300044, 300049, 300051], [], [.t 2]⟩
theorem g_linear_Format : Good x_linear_Format := ⟨Tryd.func24, by kernel_rfl⟩
theorem rs_linear_Format : x_linear_Format.rs = [.t 2] := rfl
theorem k_linear_Format : compC Tryd.prog 58 [3, 300007, 300011, 300019, 300030, 300034, 300040, 300044, 300049, 300051] [] (Tryd.f24.body.getD .skip) t_linear_Format = some (c_linear_Format, []) := by kernel_rfl
theorem b_linear_Format : Tryd.f24.body = some (Tryd.f24.body.getD .skip) := by kernel_rfl
theorem i_linear_Format {args : List AV} {σ : Heap} {K : AV → Heap → Prop} (hl : args.length ≤ 58) (h : Run x_linear_Format K [.code c_linear_Format] (argF args) E σ) : ACalls Tryd.prog 24 args σ K :=
  acalls_of (cx := x_linear_Format) g_linear_Format b_linear_Format Tryd.ntmps24 hl (compC_rc x_linear_Format _ _ _ _ k_linear_Format) h

/-! ### amortcost/amortcostref19.Format -/
/- slots of c_r19_Format_L0 : [1, 3, 4] -/
def c_r19_Format_L0 : C := (.seq (.seq (.reg [⟨some 11, .mv (.t 4), none⟩,
        ⟨some 12, .fld (.t 1) 1, none⟩,
        ⟨some 13, .ldl (.t 12) none, none⟩,
        ⟨some 14, .len (.t 13), none⟩,
        ⟨some 15, .bin .leq (.t 11) (.t 14), none⟩] [1, 3, 4, 15])
    (.cond (.t 15) .skip
     (.exit 0)))
   (.seq (.block 1 (.seq (.reg [⟨some 18, .fld (.t 1) 0, none⟩,
          ⟨some 19, .ldl (.t 18) none, none⟩,
          ⟨some 5, .mv (.t 19), none⟩,
          ⟨some 6, .mv (.c (.d (.str []))), none⟩] [1, 3, 4, 5, 6])
      (.seq (.seq (.reg [⟨some 20, .mv (.t 4), none⟩,
            ⟨some 21, .fld (.t 1) 1, none⟩,
            ⟨some 22, .ldl (.t 21) none, none⟩,
            ⟨some 23, .len (.t 22), none⟩,
            ⟨some 24, .bin .lss (.t 20) (.t 23), none⟩] [1, 3, 4, 5, 6, 24])
        (.cond (.t 24) (.seq (.reg [⟨some 25, .fld (.t 1) 1, none⟩,
              ⟨some 26, .ldl (.t 25) none, none⟩,
              ⟨some 27, .mv (.t 4), none⟩,
              ⟨some 28, .ix (.t 26) (.t 27) 2, none⟩,
              ⟨some 29, .fld (.t 28) 1, none⟩,
              ⟨some 30, .ld (.t 29) none, none⟩,
              ⟨some 5, .mv (.t 30), none⟩] [1, 3, 4, 5])
          (.seq (.reg [⟨some 6, .mv (.c (.d (.str [114, 101, 115]))), none⟩] [1, 3, 4, 5, 6])
           (.seq (.reg [⟨some 31, .fld (.t 1) 1, none⟩,
                ⟨some 32, .ldl (.t 31) none, none⟩,
                ⟨some 33, .mv (.t 4), none⟩,
                ⟨some 34, .ix (.t 32) (.t 33) 2, none⟩,
                ⟨some 35, .fld (.t 34) 0, none⟩,
                ⟨some 36, .ld (.t 35) none, none⟩,
                ⟨some 37, .bin .geq (.t 36) (.c (.d (.int .i64 0))), none⟩] [1, 3, 4, 5, 6, 37])
            (.cond (.t 37) (.reg [⟨some 38, .fld (.t 1) 1, none⟩,
                 ⟨some 39, .ldl (.t 38) none, none⟩,
                 ⟨some 40, .mv (.t 4), none⟩,
                 ⟨some 41, .ix (.t 39) (.t 40) 2, none⟩,
                 ⟨some 42, .fld (.t 41) 0, none⟩,
                 ⟨some 43, .ld (.t 42) none, none⟩,
                 ⟨some 44, .call 56 [(.t 43)], none⟩,
                 ⟨some 45, .bin .add (.c (.d (.str [118]))) (.t 44), none⟩,
                 ⟨some 6, .mv (.t 45), none⟩] [1, 3, 4, 5, 6])
             .skip))))
         (.seq (.reg [⟨some 46, .mv (.t 5), none⟩,
              ⟨some 47, .bin .eql (.t 46) (.c (.d (.int .i64 0))), none⟩,
              ⟨some 48, .mv (.t 47), none⟩,
              ⟨some 49, .mv (.t 4), some (48, true)⟩,
              ⟨some 50, .bin .gtr (.t 49) (.c (.d (.int .i64 0))), some (48, true)⟩,
              ⟨some 51, .pick (.t 48) (.t 50) (.c (.d (.bool false))), none⟩] [1, 3, 4, 5, 6, 51])
          (.cond (.t 51) (.exit 0)
           .skip))))
       (.seq (.block 2 (.seq (.reg [⟨some 53, .mv (.t 4), none⟩,
              ⟨some 54, .bin .eql (.t 53) (.c (.d (.int .i64 0))), none⟩,
              ⟨some 55, .mv (.t 54), none⟩,
              ⟨some 56, .mv (.t 5), some (55, true)⟩,
              ⟨some 57, .bin .lss (.t 56) (.c (.d (.int .i64 0))), some (55, true)⟩,
              ⟨some 58, .pick (.t 55) (.t 57) (.c (.d (.bool false))), none⟩,
              ⟨some 52, .mv (.t 58), none⟩] [1, 3, 4, 5, 6, 52])
          (.cond (.t 52) (.reg [⟨some 59, .mv (.t 3), none⟩,
               ⟨some 60, .bin .add (.t 59) (.c (.d (.str [45]))), none⟩,
               ⟨some 3, .mv (.t 60), none⟩] [1, 3, 4, 5, 6])
           (.seq (.reg [⟨some 62, .mv (.t 4), none⟩,
                ⟨some 63, .bin .gtr (.t 62) (.c (.d (.int .i64 0))), none⟩,
                ⟨some 64, .mv (.t 63), none⟩,
                ⟨some 65, .mv (.t 5), some (64, true)⟩,
                ⟨some 66, .bin .lss (.t 65) (.c (.d (.int .i64 0))), some (64, true)⟩,
                ⟨some 67, .pick (.t 64) (.t 66) (.c (.d (.bool false))), none⟩,
                ⟨some 61, .mv (.t 67), none⟩] [1, 3, 4, 5, 6, 61])
            (.cond (.t 61) (.reg [⟨some 68, .mv (.t 3), none⟩,
                 ⟨some 69, .bin .add (.t 68) (.c (.d (.str [32, 45, 32]))), none⟩,
                 ⟨some 3, .mv (.t 69), none⟩] [1, 3, 4, 5, 6])
             (.seq (.reg [⟨some 71, .mv (.t 4), none⟩,
                  ⟨some 72, .bin .gtr (.t 71) (.c (.d (.int .i64 0))), none⟩,
                  ⟨some 70, .mv (.t 72), none⟩] [1, 3, 4, 5, 6, 70])
              (.cond (.t 70) (.reg [⟨some 73, .mv (.t 3), none⟩,
                   ⟨some 74, .bin .add (.t 73) (.c (.d (.str [32, 43, 32]))), none⟩,
                   ⟨some 3, .mv (.t 74), none⟩] [1, 3, 4, 5, 6])
               .skip)))))))
        (.seq (.reg [⟨some 75, .mv (.t 5), none⟩,
             ⟨some 7, .mv (.t 75), none⟩] [1, 3, 4, 6, 7])
         (.seq (.seq (.reg [⟨some 76, .mv (.t 7), none⟩,
               ⟨some 77, .bin .lss (.t 76) (.c (.d (.int .i64 0))), none⟩] [1, 3, 4, 6, 7, 77])
           (.cond (.t 77) (.reg [⟨some 78, .mv (.t 7), none⟩,
                ⟨some 79, .un .neg (.t 78), none⟩,
                ⟨some 7, .mv (.t 79), none⟩] [1, 3, 4, 6, 7])
            .skip))
          (.block 3 (.seq (.reg [⟨some 88, .mv (.t 6), none⟩,
                ⟨some 89, .bin .eql (.t 88) (.c (.d (.str []))), none⟩,
                ⟨some 87, .mv (.t 89), none⟩] [1, 3, 4, 6, 7, 87])
            (.cond (.t 87) (.reg [⟨some 90, .mv (.t 3), none⟩,
                 ⟨some 91, .mv (.t 7), none⟩,
                 ⟨some 92, .call 56 [(.t 91)], none⟩,
                 ⟨some 93, .bin .add (.t 90) (.t 92), none⟩,
                 ⟨some 3, .mv (.t 93), none⟩] [1, 3, 4])
             (.seq (.reg [⟨some 95, .mv (.t 7), none⟩,
                  ⟨some 96, .bin .eql (.t 95) (.c (.d (.int .i64 1))), none⟩,
                  ⟨some 94, .mv (.t 96), none⟩] [1, 3, 4, 6, 7, 94])
              (.cond (.t 94) (.reg [⟨some 97, .mv (.t 3), none⟩,
                   ⟨some 98, .mv (.t 6), none⟩,
                   ⟨some 99, .bin .add (.t 97) (.t 98), none⟩,
                   ⟨some 3, .mv (.t 99), none⟩] [1, 3, 4])
               (.reg [⟨some 80, .mv (.t 3), none⟩,
                   ⟨some 81, .mv (.t 7), none⟩,
                   ⟨some 82, .call 56 [(.t 81)], none⟩,
                   ⟨some 83, .bin .add (.t 82) (.c (.d (.str [42]))), none⟩,
                   ⟨some 84, .mv (.t 6), none⟩,
                   ⟨some 85, .bin .add (.t 83) (.t 84), none⟩,
                   ⟨some 86, .bin .add (.t 80) (.t 85), none⟩,
                   ⟨some 3, .mv (.t 86), none⟩] [1, 3, 4]))))))))))))
    (.reg [⟨some 16, .mv (.t 4), none⟩,
        ⟨some 17, .bin .add (.t 16) (.c (.d (.int .i64 1))), none⟩,
        ⟨some 4, .mv (.t 17), none⟩] [1, 3, 4])))

def c_r19_Format : C := (.seq (.reg [⟨some 1, .box (.t 0) false, none⟩,
       ⟨some 2, .mv (.c (.d (.str []))), none⟩] [1])
   (.seq (.seq (.reg [⟨some 8, .ldl (.t 1) (some 2), none⟩,
         ⟨some 9, .call 26 [(.t 8)], none⟩,
         ⟨some 10, .un .not (.t 9), none⟩] [1, 10])
     (.cond (.t 10) (.seq (.reg [⟨some 2, .mv (.c (.d (.str []))), none⟩] [2])
       .ret)
      .skip))
    (.seq (.reg [⟨some 3, .mv (.c (.d (.str []))), none⟩] [1, 3])
     (.seq (.seq (.reg [⟨some 4, .mv (.c (.d (.int .i64 0))), none⟩] [1, 3, 4])
       (.block 0 (.loop c_r19_Format_L0)))
      (.seq (.reg [⟨some 100, .mv (.t 3), none⟩,
           ⟨some 2, .mv (.t 100), none⟩] [2])
       .ret)))))

def t_r19_Format : List (List Nat × PT) := [([1], .done), ([1, 10], .done), ([2], .done), ([1, 3], .done), ([1, 3, 4], .done), ([1, 3, 4, 15], .done), ([1, 3, 4, 5, 6], .done), ([1, 3, 4, 5, 6, 24], .done), ([1, 3, 4, 5], .done), ([1, 3, 4, 5, 6], .done), ([1, 3, 4, 5, 6, 37], .done), ([1, 3, 4, 5, 6], .done), ([1, 3, 4, 5, 6, 51], .done), ([1, 3, 4, 5, 6, 52], .done), ([1, 3, 4, 5, 6], .done), ([1, 3, 4, 5, 6, 61], .done), ([1, 3, 4, 5, 6], .done), ([1, 3, 4, 5, 6, 70], .done), ([1, 3, 4, 5, 6], .done), ([1, 3, 4, 6, 7], .done), ([1, 3, 4, 6, 7, 77], .done), ([1, 3, 4, 6, 7], .done), ([1, 3, 4, 6, 7, 87], .done), ([1, 3, 4], .done), ([1, 3, 4, 6, 7, 94], .done), ([1, 3, 4], .done), ([1, 3, 4], .done), ([1, 3, 4], .done), ([2], .done)]

noncomputable def x_r19_Format : Cx := ⟨Tryd.prog, 25, Tryd.f25, 101, [300008, 300013, 300019, 300022, 300026, 300032, 300039], [], [.t 2]⟩
theorem g_r19_Format : Good x_r19_Format := ⟨Tryd.func25, by kernel_rfl⟩
theorem rs_r19_Format : x_r19_Format.rs = [.t 2] := rfl
theorem k_r19_Format : compC Tryd.prog 101 [300008, 300013, 300019, 300022, 300026, 300032, 300039] [] (Tryd.f25.body.getD .skip) t_r19_Format = some (c_r19_Format, []) := by kernel_rfl
theorem b_r19_Format : Tryd.f25.body = some (Tryd.f25.body.getD .skip) := by kernel_rfl
theorem i_r19_Format {args : List AV} {σ : Heap} {K : AV → Heap → Prop} (hl : args.length ≤ 101) (h : Run x_r19_Format K [.code c_r19_Format] (argF args) E σ) : ACalls Tryd.prog 25 args σ K :=
  acalls_of (cx := x_r19_Format) g_r19_Format b_r19_Format Tryd.ntmps25 hl (compC_rc x_r19_Format _ _ _ _ k_r19_Format) h

/-! ### amortcost/amortcostref19.Valid -/
/- slots of c_r19_Valid_L0 : [1, 20, 21, 22] -/
def c_r19_Valid_L0 : C := (.seq (.reg [⟨some 23, .bin .lss (.t 22) (.t 21), none⟩] [1, 20, 21, 22, 23])
   (.seq (.cond (.t 23) .skip
     (.exit 0))
    (.seq (.block 1 (.seq (.reg [⟨some 24, .mv (.t 22), none⟩,
           ⟨some 25, .ix (.t 20) (.t 22) 2, none⟩,
           ⟨some 26, .ld (.t 25) (some 2), none⟩,
           ⟨some 4, .al [(.d (.int .i64 0)), (.d (.int .i64 0))] false, none⟩,
           ⟨some 3, .mv (.t 24), none⟩,
           ⟨none, .st (.t 4) (.t 26) 2, none⟩] [1, 3, 4, 20, 21, 22])
       (.seq (.reg [⟨some 27, .fld (.t 4) 0, none⟩,
            ⟨some 28, .ldl (.t 27) none, none⟩,
            ⟨some 29, .bin .lss (.t 28) (.c (.d (.int .i64 (-1)))), none⟩,
            ⟨some 30, .mv (.t 29), none⟩,
            ⟨some 31, .fld (.t 4) 0, some (30, false)⟩,
            ⟨some 32, .ldl (.t 31) none, some (30, false)⟩,
            ⟨some 33, .bin .geq (.t 32) (.c (.d (.int .i64 3000))), some (30, false)⟩,
            ⟨some 34, .pick (.t 30) (.c (.d (.bool true))) (.t 33), none⟩,
            ⟨some 35, .mv (.t 34), none⟩,
            ⟨some 36, .fld (.t 4) 1, some (35, false)⟩,
            ⟨some 37, .ldl (.t 36) none, some (35, false)⟩,
            ⟨some 38, .bin .eql (.t 37) (.c (.d (.int .i64 0))), some (35, false)⟩,
            ⟨some 39, .pick (.t 35) (.c (.d (.bool true))) (.t 38), none⟩,
            ⟨some 40, .mv (.t 39), none⟩,
            ⟨some 41, .fld (.t 4) 1, some (40, false)⟩,
            ⟨some 42, .ldl (.t 41) none, some (40, false)⟩,
            ⟨some 43, .bin .lss (.t 42) (.c (.d (.int .i64 (-1048576)))), some (40, false)⟩,
            ⟨some 44, .pick (.t 40) (.c (.d (.bool true))) (.t 43), none⟩,
            ⟨some 45, .mv (.t 44), none⟩,
            ⟨some 46, .fld (.t 4) 1, some (45, false)⟩,
            ⟨some 47, .ldl (.t 46) none, some (45, false)⟩,
            ⟨some 48, .bin .gtr (.t 47) (.c (.d (.int .i64 1048576))), some (45, false)⟩,
            ⟨some 49, .pick (.t 45) (.c (.d (.bool true))) (.t 48), none⟩,
            ⟨some 50, .mv (.t 49), none⟩,
            ⟨some 51, .mv (.t 3), some (50, false)⟩,
            ⟨some 52, .bin .gtr (.t 51) (.c (.d (.int .i64 0))), some (50, false)⟩,
            ⟨some 53, .mv (.t 52), some (50, false)⟩,
            ⟨some 54, .fld (.t 1) 1, some (53, true)⟩,
            ⟨some 55, .ldl (.t 54) none, some (53, true)⟩,
            ⟨some 56, .mv (.t 3), some (53, true)⟩,
            ⟨some 57, .bin .sub (.t 56) (.c (.d (.int .i64 1))), some (53, true)⟩,
            ⟨some 58, .ix (.t 55) (.t 57) 2, some (53, true)⟩,
            ⟨some 59, .fld (.t 58) 0, some (53, true)⟩,
            ⟨some 60, .ld (.t 59) none, some (53, true)⟩,
            ⟨some 61, .fld (.t 4) 0, some (53, true)⟩,
            ⟨some 62, .ldl (.t 61) none, some (53, true)⟩,
            ⟨some 63, .bin .geq (.t 60) (.t 62), some (53, true)⟩,
            ⟨some 64, .pick (.t 53) (.t 63) (.c (.d (.bool false))), some (50, false)⟩,
            ⟨some 65, .pick (.t 50) (.c (.d (.bool true))) (.t 64), none⟩] [1, 20, 21, 22, 65])
        (.cond (.t 65) (.seq (.reg [⟨some 2, .mv (.c (.d (.bool false))), none⟩] [2])
          .ret)
         .skip))))
     (.reg [⟨some 66, .bin .add (.t 22) (.c (.d (.int .i64 1))), none⟩,
         ⟨some 22, .mv (.t 66), none⟩] [1, 20, 21, 22]))))

def c_r19_Valid : C := (.seq (.reg [⟨some 1, .box (.t 0) false, none⟩,
       ⟨some 2, .mv (.c (.d (.bool false))), none⟩] [1])
   (.seq (.seq (.reg [⟨some 5, .fld (.t 1) 1, none⟩,
         ⟨some 6, .ldl (.t 5) none, none⟩,
         ⟨some 7, .len (.t 6), none⟩,
         ⟨some 8, .bin .gtr (.t 7) (.c (.d (.int .i64 16))), none⟩,
         ⟨some 9, .mv (.t 8), none⟩,
         ⟨some 10, .fld (.t 1) 0, some (9, false)⟩,
         ⟨some 11, .ldl (.t 10) none, some (9, false)⟩,
         ⟨some 12, .bin .lss (.t 11) (.c (.d (.int .i64 (-1048576)))), some (9, false)⟩,
         ⟨some 13, .pick (.t 9) (.c (.d (.bool true))) (.t 12), none⟩,
         ⟨some 14, .mv (.t 13), none⟩,
         ⟨some 15, .fld (.t 1) 0, some (14, false)⟩,
         ⟨some 16, .ldl (.t 15) none, some (14, false)⟩,
         ⟨some 17, .bin .gtr (.t 16) (.c (.d (.int .i64 1048576))), some (14, false)⟩,
         ⟨some 18, .pick (.t 14) (.c (.d (.bool true))) (.t 17), none⟩] [1, 18])
     (.cond (.t 18) (.seq (.reg [⟨some 2, .mv (.c (.d (.bool false))), none⟩] [2])
       .ret)
      .skip))
    (.seq (.seq (.reg [⟨some 19, .fld (.t 1) 1, none⟩,
          ⟨some 20, .ldl (.t 19) none, none⟩,
          ⟨some 21, .len (.t 20), none⟩,
          ⟨some 22, .mv (.c (.d (.int .i64 0))), none⟩] [1, 20, 21, 22])
      (.block 0 (.loop c_r19_Valid_L0)))
     (.seq (.reg [⟨some 2, .mv (.c (.d (.bool true))), none⟩] [2])
      .ret))))

def t_r19_Valid : List (List Nat × PT) := [([1], .done), ([1, 18], .done), ([2], .done), ([1, 20, 21, 22], .done), ([1, 20, 21, 22, 23], .done), ([1, 3, 4, 20, 21, 22], .done), ([1, 20, 21, 22, 65], .done), ([2], .done), ([1, 20, 21, 22], .done), ([2], .done)]

noncomputable def x_r19_Valid : Cx := ⟨Tryd.prog, 26, Tryd.f26, 67, [300006, 300011, 300016, 300020, 300028, 300032, 300037, 300042, 300047, 300055, 300062], [], [.t 2]⟩
theorem g_r19_Valid : Good x_r19_Valid := ⟨Tryd.func26, by kernel_rfl⟩
theorem rs_r19_Valid : x_r19_Valid.rs = [.t 2] := rfl
theorem k_r19_Valid : compC Tryd.prog 67 [300006, 300011, 300016, 300020, 300028, 300032, 300037, 300042, 300047, 300055, 300062] [] (Tryd.f26.body.getD .skip) t_r19_Valid = some (c_r19_Valid, []) := by kernel_rfl
theorem b_r19_Valid : Tryd.f26.body = some (Tryd.f26.body.getD .skip) := by kernel_rfl
theorem i_r19_Valid {args : List AV} {σ : Heap} {K : AV → Heap → Prop} (hl : args.length ≤ 67) (h : Run x_r19_Valid K [.code c_r19_Valid] (argF args) E σ) : ACalls Tryd.prog 26 args σ K :=
  acalls_of (cx := x_r19_Valid) g_r19_Valid b_r19_Valid Tryd.ntmps26 hl (compC_rc x_r19_Valid _ _ _ _ k_r19_Valid) h

/-! ### amortcost/linear.Add -/
def c_linear_Add : C := (.seq (.reg [⟨some 2, .box (.t 0) false, none⟩,
       ⟨some 3, .box (.t 1) false, none⟩,
       ⟨some 4, .al [(.d (.int .i64 0)), .nils] false, none⟩,
       ⟨some 5, .mv (.c (.d (.int .i64 0))), none⟩] [2, 3, 4])
   (.seq (.seq (.reg [⟨some 6, .ldl (.t 2) (some 2), none⟩,
         ⟨some 7, .call 35 [(.t 6)], none⟩,
         ⟨some 8, .un .not (.t 7), none⟩,
         ⟨some 9, .mv (.t 8), none⟩,
         ⟨some 10, .ldl (.t 3) (some 2), some (9, false)⟩,
         ⟨some 11, .call 35 [(.t 10)], some (9, false)⟩,
         ⟨some 12, .un .not (.t 11), some (9, false)⟩,
         ⟨some 13, .pick (.t 9) (.c (.d (.bool true))) (.t 12), none⟩] [2, 3, 4, 13])
     (.cond (.t 13) (.seq (.reg [⟨some 14, .bld [(.d (.int .i64 0)), .nils] [], none⟩,
           ⟨none, .st (.t 4) (.t 14) 2, none⟩,
           ⟨some 5, .mv (.c (.d (.int .i64 1))), none⟩] [4, 5])
       .ret)
      .skip))
    (.seq (.reg [⟨some 15, .fld (.t 2) 0, none⟩,
         ⟨some 16, .ldl (.t 15) none, none⟩,
         ⟨some 17, .fld (.t 3) 0, none⟩,
         ⟨some 18, .ldl (.t 17) none, none⟩,
         ⟨some 19, .bin .add (.t 16) (.t 18), none⟩,
         ⟨some 20, .fld (.t 2) 1, none⟩,
         ⟨some 21, .ldl (.t 20) none, none⟩,
         ⟨some 22, .fld (.t 3) 1, none⟩,
         ⟨some 23, .ldl (.t 22) none, none⟩,
         ⟨some 24, .bsl 1 2 [.nils, .nils] [(0, 1, (.t 21)), (1, 1, (.t 23))], none⟩,
         ⟨some 25, .call 58 [(.t 24)], none⟩,
         ⟨some 26, .call 57 [(.t 19), (.t 25)], none⟩,
         ⟨some 27, .ext (.t 26) 0, none⟩,
         ⟨some 28, .ext (.t 26) 1, none⟩,
         ⟨none, .st (.t 4) (.t 27) 2, none⟩,
         ⟨some 5, .mv (.t 28), none⟩] [4, 5])
     .ret)))

def t_linear_Add : List (List Nat × PT) := [([2, 3, 4], .done), ([2, 3, 4, 13], .done), ([4, 5], .done), ([4, 5], .done)]

noncomputable def x_linear_Add : Cx := ⟨Tryd.prog, 27, Tryd.f27, 29, [300006, 300010, 300016, 300018, 300021, 300023], [], [.c 4 (some 2), .t 5]⟩
theorem g_linear_Add : Good x_linear_Add := ⟨Tryd.func27, by kernel_rfl⟩
theorem rs_linear_Add : x_linear_Add.rs = [.c 4 (some 2), .t 5] := rfl
theorem k_linear_Add : compC Tryd.prog 29 [300006, 300010, 300016, 300018, 300021, 300023] [] (Tryd.f27.body.getD .skip) t_linear_Add = some (c_linear_Add, []) := by kernel_rfl
theorem b_linear_Add : Tryd.f27.body = some (Tryd.f27.body.getD .skip) := by kernel_rfl
theorem i_linear_Add {args : List AV} {σ : Heap} {K : AV → Heap → Prop} (hl : args.length ≤ 29) (h : Run x_linear_Add K [.code c_linear_Add] (argF args) E σ) : ACalls Tryd.prog 27 args σ K :=
  acalls_of (cx := x_linear_Add) g_linear_Add b_linear_Add Tryd.ntmps27 hl (compC_rc x_linear_Add _ _ _ _ k_linear_Add) h

/-! ### amortcost/amortcostref19.Add -/
def c_r19_Add : C := (.seq (.reg [⟨some 2, .box (.t 0) false, none⟩,
       ⟨some 3, .box (.t 1) false, none⟩,
       ⟨some 4, .al [(.d (.int .i64 0)), .nils] false, none⟩,
       ⟨some 5, .mv (.c (.d (.int .i64 0))), none⟩] [2, 3, 4])
   (.seq (.seq (.reg [⟨some 6, .ldl (.t 2) (some 2), none⟩,
         ⟨some 7, .call 26 [(.t 6)], none⟩,
         ⟨some 8, .un .not (.t 7), none⟩,
         ⟨some 9, .mv (.t 8), none⟩,
         ⟨some 10, .ldl (.t 3) (some 2), some (9, false)⟩,
         ⟨some 11, .call 26 [(.t 10)], some (9, false)⟩,
         ⟨some 12, .un .not (.t 11), some (9, false)⟩,
         ⟨some 13, .pick (.t 9) (.c (.d (.bool true))) (.t 12), none⟩] [2, 3, 4, 13])
     (.cond (.t 13) (.seq (.reg [⟨some 14, .bld [(.d (.int .i64 0)), .nils] [], none⟩,
           ⟨none, .st (.t 4) (.t 14) 2, none⟩,
           ⟨some 5, .mv (.c (.d (.int .i64 1))), none⟩] [4, 5])
       .ret)
      .skip))
    (.seq (.reg [⟨some 15, .ldl (.t 2) (some 2), none⟩,
         ⟨some 16, .ldl (.t 3) (some 2), none⟩,
         ⟨some 17, .call 60 [(.t 15), (.t 16), (.c (.d (.int .i64 1)))], none⟩,
         ⟨some 18, .call 59 [(.t 17)], none⟩,
         ⟨some 19, .ext (.t 18) 0, none⟩,
         ⟨some 20, .ext (.t 18) 1, none⟩,
         ⟨none, .st (.t 4) (.t 19) 2, none⟩,
         ⟨some 5, .mv (.t 20), none⟩] [4, 5])
     .ret)))

def t_r19_Add : List (List Nat × PT) := [([2, 3, 4], .done), ([2, 3, 4, 13], .done), ([4, 5], .done), ([4, 5], .done)]

noncomputable def x_r19_Add : Cx := ⟨Tryd.prog, 28, Tryd.f28, 21, [300006, 300010, 300015, 300016], [], [.c 4 (some 2), .t 5]⟩
theorem g_r19_Add : Good x_r19_Add := ⟨Tryd.func28, by kernel_rfl⟩
theorem rs_r19_Add : x_r19_Add.rs = [.c 4 (some 2), .t 5] := rfl
theorem k_r19_Add : compC Tryd.prog 21 [300006, 300010, 300015, 300016] [] (Tryd.f28.body.getD .skip) t_r19_Add = some (c_r19_Add, []) := by kernel_rfl
theorem b_r19_Add : Tryd.f28.body = some (Tryd.f28.body.getD .skip) := by kernel_rfl
theorem i_r19_Add {args : List AV} {σ : Heap} {K : AV → Heap → Prop} (hl : args.length ≤ 21) (h : Run x_r19_Add K [.code c_r19_Add] (argF args) E σ) : ACalls Tryd.prog 28 args σ K :=
  acalls_of (cx := x_r19_Add) g_r19_Add b_r19_Add Tryd.ntmps28 hl (compC_rc x_r19_Add _ _ _ _ k_r19_Add) h

/-! ### amortcost/linear.Sub -/
def c_linear_Sub : C := (.seq (.reg [⟨some 2, .box (.t 0) false, none⟩,
       ⟨some 3, .box (.t 1) false, none⟩,
       ⟨some 4, .al [(.d (.int .i64 0)), .nils] false, none⟩,
       ⟨some 5, .mv (.c (.d (.int .i64 0))), none⟩] [2, 3, 4])
   (.seq (.seq (.reg [⟨some 6, .ldl (.t 2) (some 2), none⟩,
         ⟨some 7, .call 35 [(.t 6)], none⟩,
         ⟨some 8, .un .not (.t 7), none⟩,
         ⟨some 9, .mv (.t 8), none⟩,
         ⟨some 10, .ldl (.t 3) (some 2), some (9, false)⟩,
         ⟨some 11, .call 35 [(.t 10)], some (9, false)⟩,
         ⟨some 12, .un .not (.t 11), some (9, false)⟩,
         ⟨some 13, .pick (.t 9) (.c (.d (.bool true))) (.t 12), none⟩] [2, 3, 4, 13])
     (.cond (.t 13) (.seq (.reg [⟨some 14, .bld [(.d (.int .i64 0)), .nils] [], none⟩,
           ⟨none, .st (.t 4) (.t 14) 2, none⟩,
           ⟨some 5, .mv (.c (.d (.int .i64 1))), none⟩] [4, 5])
       .ret)
      .skip))
    (.seq (.reg [⟨some 15, .fld (.t 2) 0, none⟩,
         ⟨some 16, .ldl (.t 15) none, none⟩,
         ⟨some 17, .fld (.t 3) 0, none⟩,
         ⟨some 18, .ldl (.t 17) none, none⟩,
         ⟨some 19, .bin .sub (.t 16) (.t 18), none⟩,
         ⟨some 20, .fld (.t 2) 1, none⟩,
         ⟨some 21, .ldl (.t 20) none, none⟩,
         ⟨some 22, .fld (.t 3) 1, none⟩,
         ⟨some 23, .ldl (.t 22) none, none⟩,
         ⟨some 24, .call 61 [(.t 23), (.c (.d (.int .i64 (-1))))], none⟩,
         ⟨some 25, .bsl 1 2 [.nils, .nils] [(0, 1, (.t 21)), (1, 1, (.t 24))], none⟩,
         ⟨some 26, .call 58 [(.t 25)], none⟩,
         ⟨some 27, .call 57 [(.t 19), (.t 26)], none⟩,
         ⟨some 28, .ext (.t 27) 0, none⟩,
         ⟨some 29, .ext (.t 27) 1, none⟩,
         ⟨none, .st (.t 4) (.t 28) 2, none⟩,
         ⟨some 5, .mv (.t 29), none⟩] [4, 5])
     .ret)))

def t_linear_Sub : List (List Nat × PT) := [([2, 3, 4], .done), ([2, 3, 4, 13], .done), ([4, 5], .done), ([4, 5], .done)]

noncomputable def x_linear_Sub : Cx := ⟨Tryd.prog, 29, Tryd.f29, 30, [300006, 300010, 300016, 300018, 300021, 300023], [], [.c 4 (some 2), .t 5]⟩
theorem g_linear_Sub : Good x_linear_Sub := ⟨Tryd.func29, by kernel_rfl⟩
theorem rs_linear_Sub : x_linear_Sub.rs = [.c 4 (some 2), .t 5] := rfl
theorem k_linear_Sub : compC Tryd.prog 30 [300006, 300010, 300016, 300018, 300021, 300023] [] (Tryd.f29.body.getD .skip) t_linear_Sub = some (c_linear_Sub, []) := by kernel_rfl
theorem b_linear_Sub : Tryd.f29.body = some (Tryd.f29.body.getD .skip) := by kernel_rfl
theorem i_linear_Sub {args : List AV} {σ : Heap} {K : AV → Heap → Prop} (hl : args.length ≤ 30) (h : Run x_linear_Sub K [.code c_linear_Sub] (argF args) E σ) : ACalls Tryd.prog 29 args σ K :=
  acalls_of (cx := x_linear_Sub) g_linear_Sub b_linear_Sub Tryd.ntmps29 hl (compC_rc x_linear_Sub _ _ _ _ k_linear_Sub) h

/-! ### amortcost/amortcostref19.Sub -/
def c_r19_Sub : C := (.seq (.reg [⟨some 2, .box (.t 0) false, none⟩,
       ⟨some 3, .box (.t 1) false, none⟩,
       ⟨some 4, .al [(.d (.int .i64 0)), .nils] false, none⟩,
       ⟨some 5, .mv (.c (.d (.int .i64 0))), none⟩] [2, 3, 4])
   (.seq (.seq (.reg [⟨some 6, .ldl (.t 2) (some 2), none⟩,
         ⟨some 7, .call 26 [(.t 6)], none⟩,
         ⟨some 8, .un .not (.t 7), none⟩,
         ⟨some 9, .mv (.t 8), none⟩,
         ⟨some 10, .ldl (.t 3) (some 2), some (9, false)⟩,
         ⟨some 11, .call 26 [(.t 10)], some (9, false)⟩,
         ⟨some 12, .un .not (.t 11), some (9, false)⟩,
         ⟨some 13, .pick (.t 9) (.c (.d (.bool true))) (.t 12), none⟩] [2, 3, 4, 13])
     (.cond (.t 13) (.seq (.reg [⟨some 14, .bld [(.d (.int .i64 0)), .nils] [], none⟩,
           ⟨none, .st (.t 4) (.t 14) 2, none⟩,
           ⟨some 5, .mv (.c (.d (.int .i64 1))), none⟩] [4, 5])
       .ret)
      .skip))
    (.seq (.reg [⟨some 15, .ldl (.t 2) (some 2), none⟩,
         ⟨some 16, .ldl (.t 3) (some 2), none⟩,
         ⟨some 17, .call 60 [(.t 15), (.t 16), (.c (.d (.int .i64 (-1))))], none⟩,
         ⟨some 18, .call 59 [(.t 17)], none⟩,
         ⟨some 19, .ext (.t 18) 0, none⟩,
         ⟨some 20, .ext (.t 18) 1, none⟩,
         ⟨none, .st (.t 4) (.t 19) 2, none⟩,
         ⟨some 5, .mv (.t 20), none⟩] [4, 5])
     .ret)))

def t_r19_Sub : List (List Nat × PT) := [([2, 3, 4], .done), ([2, 3, 4, 13], .done), ([4, 5], .done), ([4, 5], .done)]

noncomputable def x_r19_Sub : Cx := ⟨Tryd.prog, 30, Tryd.f30, 21, [300006, 300010, 300015, 300016], [], [.c 4 (some 2), .t 5]⟩
theorem g_r19_Sub : Good x_r19_Sub := ⟨Tryd.func30, by kernel_rfl⟩
theorem rs_r19_Sub : x_r19_Sub.rs = [.c 4 (some 2), .t 5] := rfl
theorem k_r19_Sub : compC Tryd.prog 21 [300006, 300010, 300015, 300016] [] (Tryd.f30.body.getD .skip) t_r19_Sub = some (c_r19_Sub, []) := by kernel_rfl
theorem b_r19_Sub : Tryd.f30.body = some (Tryd.f30.body.getD .skip) := by kernel_rfl
theorem i_r19_Sub {args : List AV} {σ : Heap} {K : AV → Heap → Prop} (hl : args.length ≤ 21) (h : Run x_r19_Sub K [.code c_r19_Sub] (argF args) E σ) : ACalls Tryd.prog 30 args σ K :=
  acalls_of (cx := x_r19_Sub) g_r19_Sub b_r19_Sub Tryd.ntmps30 hl (compC_rc x_r19_Sub _ _ _ _ k_r19_Sub) h

/-! ### amortcost/linear.Scale -/
def c_linear_Scale : C := (.seq (.reg [⟨some 2, .box (.t 0) false, none⟩,
       ⟨some 4, .al [(.d (.int .i64 0)), .nils] false, none⟩,
       ⟨some 5, .mv (.c (.d (.int .i64 0))), none⟩] [1, 2, 4])
   (.seq (.seq (.reg [⟨some 6, .ldl (.t 2) (some 2), none⟩,
         ⟨some 7, .call 35 [(.t 6)], none⟩,
         ⟨some 8, .un .not (.t 7), none⟩] [1, 2, 4, 8])
     (.cond (.t 8) (.seq (.reg [⟨some 9, .bld [(.d (.int .i64 0)), .nils] [], none⟩,
           ⟨none, .st (.t 4) (.t 9) 2, none⟩,
           ⟨some 5, .mv (.c (.d (.int .i64 1))), none⟩] [4, 5])
       .ret)
      .skip))
    (.seq (.seq (.reg [⟨some 10, .mv (.t 1), none⟩,
          ⟨some 11, .call 49 [(.t 10)], none⟩,
          ⟨some 12, .un .not (.t 11), none⟩] [1, 2, 4, 12])
      (.cond (.t 12) (.seq (.reg [⟨some 13, .bld [(.d (.int .i64 0)), .nils] [], none⟩,
            ⟨none, .st (.t 4) (.t 13) 2, none⟩,
            ⟨some 5, .mv (.c (.d (.int .i64 9))), none⟩] [4, 5])
        .ret)
       .skip))
     (.seq (.reg [⟨some 14, .fld (.t 2) 0, none⟩,
          ⟨some 15, .ldl (.t 14) none, none⟩,
          ⟨some 16, .mv (.t 1), none⟩,
          ⟨some 17, .bin .mul (.t 15) (.t 16), none⟩,
          ⟨some 18, .fld (.t 2) 1, none⟩,
          ⟨some 19, .ldl (.t 18) none, none⟩,
          ⟨some 20, .mv (.t 1), none⟩,
          ⟨some 21, .call 61 [(.t 19), (.t 20)], none⟩,
          ⟨some 22, .call 57 [(.t 17), (.t 21)], none⟩,
          ⟨some 23, .ext (.t 22) 0, none⟩,
          ⟨some 24, .ext (.t 22) 1, none⟩,
          ⟨none, .st (.t 4) (.t 23) 2, none⟩,
          ⟨some 5, .mv (.t 24), none⟩] [4, 5])
      .ret))))

def t_linear_Scale : List (List Nat × PT) := [([1, 2, 4], .done), ([1, 2, 4, 8], .done), ([4, 5], .done), ([1, 2, 4, 12], .done), ([4, 5], .done), ([4, 5], .done)]

noncomputable def x_linear_Scale : Cx := ⟨Tryd.prog, 31, Tryd.f31, 25, [300006, 300015, 300019], [], [.c 4 (some 2), .t 5]⟩
theorem g_linear_Scale : Good x_linear_Scale := ⟨Tryd.func31, by kernel_rfl⟩
theorem rs_linear_Scale : x_linear_Scale.rs = [.c 4 (some 2), .t 5] := rfl
theorem k_linear_Scale : compC Tryd.prog 25 [300006, 300015, 300019] [] (Tryd.f31.body.getD .skip) t_linear_Scale = some (c_linear_Scale, []) := by kernel_rfl
theorem b_linear_Scale : Tryd.f31.body = some (Tryd.f31.body.getD .skip) := by kernel_rfl
theorem i_linear_Scale {args : List AV} {σ : Heap} {K : AV → Heap → Prop} (hl : args.length ≤ 25) (h : Run x_linear_Scale K [.code c_linear_Scale] (argF args) E σ) : ACalls Tryd.prog 31 args σ K :=
  acalls_of (cx := x_linear_Scale) g_linear_Scale b_linear_Scale Tryd.ntmps31 hl (compC_rc x_linear_Scale _ _ _ _ k_linear_Scale) h

/-! ### amortcost/amortcostref19.Scale -/
def c_r19_Scale : C := (.seq (.reg [⟨some 2, .box (.t 0) false, none⟩,
       ⟨some 4, .al [(.d (.int .i64 0)), .nils] false, none⟩,
       ⟨some 5, .mv (.c (.d (.int .i64 0))), none⟩] [1, 2, 4])
   (.seq (.seq (.reg [⟨some 6, .ldl (.t 2) (some 2), none⟩,
         ⟨some 7, .call 26 [(.t 6)], none⟩,
         ⟨some 8, .un .not (.t 7), none⟩] [1, 2, 4, 8])
     (.cond (.t 8) (.seq (.reg [⟨some 9, .bld [(.d (.int .i64 0)), .nils] [], none⟩,
           ⟨none, .st (.t 4) (.t 9) 2, none⟩,
           ⟨some 5, .mv (.c (.d (.int .i64 1))), none⟩] [4, 5])
       .ret)
      .skip))
    (.seq (.seq (.reg [⟨some 10, .mv (.t 1), none⟩,
          ⟨some 11, .bin .lss (.t 10) (.c (.d (.int .i64 (-1048576)))), none⟩,
          ⟨some 12, .mv (.t 11), none⟩,
          ⟨some 13, .mv (.t 1), some (12, false)⟩,
          ⟨some 14, .bin .gtr (.t 13) (.c (.d (.int .i64 1048576))), some (12, false)⟩,
          ⟨some 15, .pick (.t 12) (.c (.d (.bool true))) (.t 14), none⟩] [1, 2, 4, 15])
      (.cond (.t 15) (.seq (.reg [⟨some 16, .bld [(.d (.int .i64 0)), .nils] [], none⟩,
            ⟨none, .st (.t 4) (.t 16) 2, none⟩,
            ⟨some 5, .mv (.c (.d (.int .i64 9))), none⟩] [4, 5])
        .ret)
       .skip))
     (.seq (.reg [⟨some 17, .bld [(.d (.int .i64 0)), .nils] [], none⟩,
          ⟨some 18, .ldl (.t 2) (some 2), none⟩,
          ⟨some 19, .mv (.t 1), none⟩,
          ⟨some 20, .call 60 [(.t 17), (.t 18), (.t 19)], none⟩,
          ⟨some 21, .call 59 [(.t 20)], none⟩,
          ⟨some 22, .ext (.t 21) 0, none⟩,
          ⟨some 23, .ext (.t 21) 1, none⟩,
          ⟨none, .st (.t 4) (.t 22) 2, none⟩,
          ⟨some 5, .mv (.t 23), none⟩] [4, 5])
      .ret))))

def t_r19_Scale : List (List Nat × PT) := [([1, 2, 4], .done), ([1, 2, 4, 8], .done), ([4, 5], .done), ([1, 2, 4, 15], .done), ([4, 5], .done), ([4, 5], .done)]

noncomputable def x_r19_Scale : Cx := ⟨Tryd.prog, 32, Tryd.f32, 24, [300006, 300018], [], [.c 4 (some 2), .t 5]⟩
theorem g_r19_Scale : Good x_r19_Scale := ⟨Tryd.func32, by kernel_rfl⟩
theorem rs_r19_Scale : x_r19_Scale.rs = [.c 4 (some 2), .t 5] := rfl
theorem k_r19_Scale : compC Tryd.prog 24 [300006, 300018] [] (Tryd.f32.body.getD .skip) t_r19_Scale = some (c_r19_Scale, []) := by kernel_rfl
theorem b_r19_Scale : Tryd.f32.body = some (Tryd.f32.body.getD .skip) := by kernel_rfl
theorem i_r19_Scale {args : List AV} {σ : Heap} {K : AV → Heap → Prop} (hl : args.length ≤ 24) (h : Run x_r19_Scale K [.code c_r19_Scale] (argF args) E σ) : ACalls Tryd.prog 32 args σ K :=
  acalls_of (cx := x_r19_Scale) g_r19_Scale b_r19_Scale Tryd.ntmps32 hl (compC_rc x_r19_Scale _ _ _ _ k_r19_Scale) h

/-! ### amortcost/linear.Canonical -/
/- slots of c_linear_Canonical_L0 : [1, 2, 9, 10, 11] -/
def c_linear_Canonical_L0 : C := (.seq (.reg [⟨some 12, .bin .lss (.t 11) (.t 10), none⟩] [1, 2, 9, 10, 11, 12])
   (.seq (.cond (.t 12) .skip
     (.exit 0))
    (.seq (.block 1 (.seq (.reg [⟨some 13, .ix (.t 9) (.t 11) 2, none⟩,
           ⟨some 14, .ld (.t 13) (some 2), none⟩,
           ⟨some 5, .al [(.d (.int .i64 0)), (.d (.int .i64 0))] false, none⟩,
           ⟨none, .st (.t 5) (.t 14) 2, none⟩] [1, 2, 5, 9, 10, 11])
       (.seq (.reg [⟨some 15, .fld (.t 5) 0, none⟩,
            ⟨some 16, .ldl (.t 15) none, none⟩,
            ⟨some 17, .call 50 [(.t 16)], none⟩,
            ⟨some 18, .un .not (.t 17), none⟩] [1, 2, 9, 10, 11, 18])
        (.cond (.t 18) (.seq (.reg [⟨some 19, .bld [(.d (.int .i64 0)), .nils] [], none⟩,
              ⟨none, .st (.t 2) (.t 19) 2, none⟩,
              ⟨some 3, .mv (.c (.d (.int .i64 8))), none⟩] [2, 3])
          .ret)
         .skip))))
     (.reg [⟨some 20, .bin .add (.t 11) (.c (.d (.int .i64 1))), none⟩,
         ⟨some 11, .mv (.t 20), none⟩] [1, 2, 9, 10, 11]))))

/- slots of c_linear_Canonical_L1 : [1, 2, 32, 33, 34] -/
def c_linear_Canonical_L1 : C := (.seq (.reg [⟨some 35, .bin .lss (.t 34) (.t 33), none⟩] [1, 2, 32, 33, 34, 35])
   (.seq (.cond (.t 35) .skip
     (.exit 2))
    (.seq (.block 3 (.seq (.reg [⟨some 36, .ix (.t 32) (.t 34) 2, none⟩,
           ⟨some 37, .ld (.t 36) (some 2), none⟩,
           ⟨some 7, .al [(.d (.int .i64 0)), (.d (.int .i64 0))] false, none⟩,
           ⟨none, .st (.t 7) (.t 37) 2, none⟩] [1, 2, 7, 32, 33, 34])
       (.seq (.reg [⟨some 38, .fld (.t 7) 1, none⟩,
            ⟨some 39, .ldl (.t 38) none, none⟩,
            ⟨some 40, .call 62 [(.t 39)], none⟩] [1, 2, 32, 33, 34, 40])
        (.cond (.t 40) (.seq (.reg [⟨some 41, .bld [(.d (.int .i64 0)), .nils] [], none⟩,
              ⟨none, .st (.t 2) (.t 41) 2, none⟩,
              ⟨some 3, .mv (.c (.d (.int .i64 9))), none⟩] [2, 3])
          .ret)
         .skip))))
     (.reg [⟨some 42, .bin .add (.t 34) (.c (.d (.int .i64 1))), none⟩,
         ⟨some 34, .mv (.t 42), none⟩] [1, 2, 32, 33, 34]))))

def c_linear_Canonical : C := (.seq (.reg [⟨some 1, .box (.t 0) false, none⟩,
       ⟨some 2, .al [(.d (.int .i64 0)), .nils] false, none⟩,
       ⟨some 3, .mv (.c (.d (.int .i64 0))), none⟩] [1, 2])
   (.seq (.seq (.reg [⟨some 8, .fld (.t 1) 1, none⟩,
         ⟨some 9, .ldl (.t 8) none, none⟩,
         ⟨some 10, .len (.t 9), none⟩,
         ⟨some 11, .mv (.c (.d (.int .i64 0))), none⟩] [1, 2, 9, 10, 11])
     (.block 0 (.loop c_linear_Canonical_L0)))
    (.seq (.seq (.reg [⟨some 21, .fld (.t 1) 1, none⟩,
          ⟨some 22, .ldl (.t 21) none, none⟩,
          ⟨some 23, .len (.t 22), none⟩,
          ⟨some 24, .bin .gtr (.t 23) (.c (.d (.int .i64 64))), none⟩,
          ⟨some 25, .mv (.t 24), none⟩,
          ⟨some 26, .fld (.t 1) 0, some (25, false)⟩,
          ⟨some 27, .ldl (.t 26) none, some (25, false)⟩,
          ⟨some 28, .call 62 [(.t 27)], some (25, false)⟩,
          ⟨some 29, .pick (.t 25) (.c (.d (.bool true))) (.t 28), none⟩] [1, 2, 29])
      (.cond (.t 29) (.seq (.reg [⟨some 30, .bld [(.d (.int .i64 0)), .nils] [], none⟩,
            ⟨none, .st (.t 2) (.t 30) 2, none⟩,
            ⟨some 3, .mv (.c (.d (.int .i64 9))), none⟩] [2, 3])
        .ret)
       .skip))
     (.seq (.seq (.reg [⟨some 31, .fld (.t 1) 1, none⟩,
           ⟨some 32, .ldl (.t 31) none, none⟩,
           ⟨some 33, .len (.t 32), none⟩,
           ⟨some 34, .mv (.c (.d (.int .i64 0))), none⟩] [1, 2, 32, 33, 34])
       (.block 2 (.loop c_linear_Canonical_L1)))
      (.seq (.reg [⟨some 43, .fld (.t 1) 0, none⟩,
           ⟨some 44, .ldl (.t 43) none, none⟩,
           ⟨some 45, .fld (.t 1) 1, none⟩,
           ⟨some 46, .ldl (.t 45) none, none⟩,
           ⟨some 47, .call 57 [(.t 44), (.t 46)], none⟩,
           ⟨some 48, .ext (.t 47) 0, none⟩,
           ⟨some 49, .ext (.t 47) 1, none⟩,
           ⟨none, .st (.t 2) (.t 48) 2, none⟩,
           ⟨some 3, .mv (.t 49), none⟩] [2, 3])
       .ret)))))

def t_linear_Canonical : List (List Nat × PT) := [([1, 2], .done), ([1, 2, 9, 10, 11], .done), ([1, 2, 9, 10, 11, 12], .done), ([1, 2, 5, 9, 10, 11], .done), ([1, 2, 9, 10, 11, 18], .done), ([2, 3], .done), ([1, 2, 9, 10, 11], .done), ([1, 2, 29], .done), ([2, 3], .done), ([1, 2, 32, 33, 34], .done), ([1, 2, 32, 33, 34, 35], .done), ([1, 2, 7, 32, 33, 34], .done), ([1, 2, 32, 33, 34, 40], .done), ([2, 3], .done), ([1, 2, 32, 33, 34], .done), ([2, 3], .done)]

noncomputable def x_linear_Canonical : Cx := ⟨Tryd.prog, 33, Tryd.f33, 50, [300009, 300016, 300022, 300027, 300032, 300039, 300044, 300046], [], [.c 2 (some 2), .t 3]⟩
theorem g_linear_Canonical : Good x_linear_Canonical := ⟨Tryd.func33, by kernel_rfl⟩
theorem rs_linear_Canonical : x_linear_Canonical.rs = [.c 2 (some 2), .t 3] := rfl
theorem k_linear_Canonical : compC Tryd.prog 50 [300009, 300016, 300022, 300027, 300032, 300039, 300044, 300046] [] (Tryd.f33.body.getD .skip) t_linear_Canonical = some (c_linear_Canonical, []) := by kernel_rfl
theorem b_linear_Canonical : Tryd.f33.body = some (Tryd.f33.body.getD .skip) := by kernel_rfl
theorem i_linear_Canonical {args : List AV} {σ : Heap} {K : AV → Heap → Prop} (hl : args.length ≤ 50) (h : Run x_linear_Canonical K [.code c_linear_Canonical] (argF args) E σ) : ACalls Tryd.prog 33 args σ K :=
  acalls_of (cx := x_linear_Canonical) g_linear_Canonical b_linear_Canonical Tryd.ntmps33 hl (compC_rc x_linear_Canonical _ _ _ _ k_linear_Canonical) h

/-! ### amortcost/amortcostref19.Canonical -/
/- slots of c_r19_Canonical_L0 : [1, 2, 10, 11, 12] -/
def c_r19_Canonical_L0 : C := (.seq (.reg [⟨some 13, .bin .lss (.t 12) (.t 11), none⟩] [1, 2, 10, 11, 12, 13])
   (.seq (.cond (.t 13) .skip
     (.exit 0))
    (.seq (.block 1 (.seq (.reg [⟨some 14, .ix (.t 10) (.t 12) 2, none⟩,
           ⟨some 15, .ld (.t 14) (some 2), none⟩,
           ⟨some 5, .al [(.d (.int .i64 0)), (.d (.int .i64 0))] false, none⟩,
           ⟨none, .st (.t 5) (.t 15) 2, none⟩] [1, 2, 5, 10, 11, 12])
       (.seq (.reg [⟨some 16, .fld (.t 5) 0, none⟩,
            ⟨some 17, .ldl (.t 16) none, none⟩,
            ⟨some 18, .bin .lss (.t 17) (.c (.d (.int .i64 (-1)))), none⟩,
            ⟨some 19, .mv (.t 18), none⟩,
            ⟨some 20, .fld (.t 5) 0, some (19, false)⟩,
            ⟨some 21, .ldl (.t 20) none, some (19, false)⟩,
            ⟨some 22, .bin .geq (.t 21) (.c (.d (.int .i64 3000))), some (19, false)⟩,
            ⟨some 23, .pick (.t 19) (.c (.d (.bool true))) (.t 22), none⟩] [1, 2, 10, 11, 12, 23])
        (.cond (.t 23) (.seq (.reg [⟨some 24, .bld [(.d (.int .i64 0)), .nils] [], none⟩,
              ⟨none, .st (.t 2) (.t 24) 2, none⟩,
              ⟨some 3, .mv (.c (.d (.int .i64 8))), none⟩] [2, 3])
          .ret)
         .skip))))
     (.reg [⟨some 25, .bin .add (.t 12) (.c (.d (.int .i64 1))), none⟩,
         ⟨some 12, .mv (.t 25), none⟩] [1, 2, 10, 11, 12]))))

/- slots of c_r19_Canonical_L1 : [2, 6, 45, 46, 47] -/
def c_r19_Canonical_L1 : C := (.seq (.reg [⟨some 48, .bin .lss (.t 47) (.t 46), none⟩] [2, 6, 45, 46, 47, 48])
   (.seq (.cond (.t 48) .skip
     (.exit 2))
    (.seq (.block 3 (.seq (.reg [⟨some 49, .ix (.t 45) (.t 47) 2, none⟩,
           ⟨some 50, .ld (.t 49) (some 2), none⟩,
           ⟨some 8, .al [(.d (.int .i64 0)), (.d (.int .i64 0))] false, none⟩,
           ⟨none, .st (.t 8) (.t 50) 2, none⟩] [2, 6, 8, 45, 46, 47])
       (.seq (.seq (.reg [⟨some 51, .fld (.t 8) 1, none⟩,
             ⟨some 52, .ldl (.t 51) none, none⟩,
             ⟨some 53, .bin .lss (.t 52) (.c (.d (.int .i64 (-1099511627776)))), none⟩,
             ⟨some 54, .mv (.t 53), none⟩,
             ⟨some 55, .fld (.t 8) 1, some (54, false)⟩,
             ⟨some 56, .ldl (.t 55) none, some (54, false)⟩,
             ⟨some 57, .bin .gtr (.t 56) (.c (.d (.int .i64 1099511627776))), some (54, false)⟩,
             ⟨some 58, .pick (.t 54) (.c (.d (.bool true))) (.t 57), none⟩] [2, 6, 8, 45, 46, 47, 58])
         (.cond (.t 58) (.seq (.reg [⟨some 59, .bld [(.d (.int .i64 0)), .nils] [], none⟩,
               ⟨none, .st (.t 2) (.t 59) 2, none⟩,
               ⟨some 3, .mv (.c (.d (.int .i64 9))), none⟩] [2, 3])
           .ret)
          .skip))
        (.reg [⟨some 60, .fld (.t 6) 1, none⟩,
            ⟨some 61, .ldl (.t 60) none, none⟩,
            ⟨some 62, .fld (.t 8) 0, none⟩,
            ⟨some 63, .ldl (.t 62) none, none⟩,
            ⟨some 64, .fld (.t 8) 1, none⟩,
            ⟨some 65, .ldl (.t 64) none, none⟩,
            ⟨some 66, .call 63 [(.t 61), (.t 63), (.t 65)], none⟩,
            ⟨some 67, .fld (.t 6) 1, none⟩,
            ⟨none, .st (.t 67) (.t 66) 1, none⟩] [2, 6, 45, 46, 47]))))
     (.reg [⟨some 68, .bin .add (.t 47) (.c (.d (.int .i64 1))), none⟩,
         ⟨some 47, .mv (.t 68), none⟩] [2, 6, 45, 46, 47]))))

def c_r19_Canonical : C := (.seq (.reg [⟨some 1, .box (.t 0) false, none⟩,
       ⟨some 2, .al [(.d (.int .i64 0)), .nils] false, none⟩,
       ⟨some 3, .mv (.c (.d (.int .i64 0))), none⟩] [1, 2])
   (.seq (.seq (.reg [⟨some 9, .fld (.t 1) 1, none⟩,
         ⟨some 10, .ldl (.t 9) none, none⟩,
         ⟨some 11, .len (.t 10), none⟩,
         ⟨some 12, .mv (.c (.d (.int .i64 0))), none⟩] [1, 2, 10, 11, 12])
     (.block 0 (.loop c_r19_Canonical_L0)))
    (.seq (.seq (.reg [⟨some 26, .fld (.t 1) 1, none⟩,
          ⟨some 27, .ldl (.t 26) none, none⟩,
          ⟨some 28, .len (.t 27), none⟩,
          ⟨some 29, .bin .gtr (.t 28) (.c (.d (.int .i64 64))), none⟩,
          ⟨some 30, .mv (.t 29), none⟩,
          ⟨some 31, .fld (.t 1) 0, some (30, false)⟩,
          ⟨some 32, .ldl (.t 31) none, some (30, false)⟩,
          ⟨some 33, .bin .lss (.t 32) (.c (.d (.int .i64 (-1099511627776)))), some (30, false)⟩,
          ⟨some 34, .pick (.t 30) (.c (.d (.bool true))) (.t 33), none⟩,
          ⟨some 35, .mv (.t 34), none⟩,
          ⟨some 36, .fld (.t 1) 0, some (35, false)⟩,
          ⟨some 37, .ldl (.t 36) none, some (35, false)⟩,
          ⟨some 38, .bin .gtr (.t 37) (.c (.d (.int .i64 1099511627776))), some (35, false)⟩,
          ⟨some 39, .pick (.t 35) (.c (.d (.bool true))) (.t 38), none⟩] [1, 2, 39])
      (.cond (.t 39) (.seq (.reg [⟨some 40, .bld [(.d (.int .i64 0)), .nils] [], none⟩,
            ⟨none, .st (.t 2) (.t 40) 2, none⟩,
            ⟨some 3, .mv (.c (.d (.int .i64 9))), none⟩] [2, 3])
        .ret)
       .skip))
     (.seq (.reg [⟨some 41, .fld (.t 1) 0, none⟩,
          ⟨some 42, .ldl (.t 41) none, none⟩,
          ⟨some 43, .bld [(.d (.int .i64 0)), .nils] [(0, 1, (.t 42))], none⟩,
          ⟨some 6, .al [(.d (.int .i64 0)), .nils] false, none⟩,
          ⟨none, .st (.t 6) (.t 43) 2, none⟩] [1, 2, 6])
      (.seq (.seq (.reg [⟨some 44, .fld (.t 1) 1, none⟩,
            ⟨some 45, .ldl (.t 44) none, none⟩,
            ⟨some 46, .len (.t 45), none⟩,
            ⟨some 47, .mv (.c (.d (.int .i64 0))), none⟩] [2, 6, 45, 46, 47])
        (.block 2 (.loop c_r19_Canonical_L1)))
       (.seq (.reg [⟨some 69, .ldl (.t 6) (some 2), none⟩,
            ⟨some 70, .call 59 [(.t 69)], none⟩,
            ⟨some 71, .ext (.t 70) 0, none⟩,
            ⟨some 72, .ext (.t 70) 1, none⟩,
            ⟨none, .st (.t 2) (.t 71) 2, none⟩,
            ⟨some 3, .mv (.t 72), none⟩] [2, 3])
        .ret))))))

def t_r19_Canonical : List (List Nat × PT) := [([1, 2], .done), ([1, 2, 10, 11, 12], .done), ([1, 2, 10, 11, 12, 13], .done), ([1, 2, 5, 10, 11, 12], .done), ([1, 2, 10, 11, 12, 23], .done), ([2, 3], .done), ([1, 2, 10, 11, 12], .done), ([1, 2, 39], .done), ([2, 3], .done), ([1, 2, 6], .done), ([2, 6, 45, 46, 47], .done), ([2, 6, 45, 46, 47, 48], .done), ([2, 6, 8, 45, 46, 47], .done), ([2, 6, 8, 45, 46, 47, 58], .done), ([2, 3], .done), ([2, 6, 45, 46, 47], .done), ([2, 6, 45, 46, 47], .done), ([2, 3], .done)]

noncomputable def x_r19_Canonical : Cx := ⟨Tryd.prog, 34, Tryd.f34, 73, [300010, 300017, 300021, 300027, 300032, 300037, 300042, 300045, 300052, 300056, 300061, 300063, 300065, 300069], [], [.c 2 (some 2), .t 3]⟩
theorem g_r19_Canonical : Good x_r19_Canonical := ⟨Tryd.func34, by kernel_rfl⟩
theorem rs_r19_Canonical : x_r19_Canonical.rs = [.c 2 (some 2), .t 3] := rfl
theorem k_r19_Canonical : compC Tryd.prog 73 [300010, 300017, 300021, 300027, 300032, 300037, 300042, 300045, 300052, 300056, 300061, 300063, 300065, 300069] [] (Tryd.f34.body.getD .skip) t_r19_Canonical = some (c_r19_Canonical, []) := by kernel_rfl
theorem b_r19_Canonical : Tryd.f34.body = some (Tryd.f34.body.getD .skip) := by kernel_rfl
theorem i_r19_Canonical {args : List AV} {σ : Heap} {K : AV → Heap → Prop} (hl : args.length ≤ 73) (h : Run x_r19_Canonical K [.code c_r19_Canonical] (argF args) E σ) : ACalls Tryd.prog 34 args σ K :=
  acalls_of (cx := x_r19_Canonical) g_r19_Canonical b_r19_Canonical Tryd.ntmps34 hl (compC_rc x_r19_Canonical _ _ _ _ k_r19_Canonical) h

/-! ### amortcost/linear.Valid -/
/- slots of c_linear_Valid_L0 : [1, 16, 17, 18] -/
def c_linear_Valid_L0 : C := (.seq (.reg [⟨some 19, .bin .lss (.t 18) (.t 17), none⟩] [1, 16, 17, 18, 19])
   (.seq (.cond (.t 19) .skip
     (.exit 0))
    (.seq (.block 1 (.seq (.reg [⟨some 20, .mv (.t 18), none⟩,
           ⟨some 21, .ix (.t 16) (.t 18) 2, none⟩,
           ⟨some 22, .ld (.t 21) (some 2), none⟩,
           ⟨some 4, .al [(.d (.int .i64 0)), (.d (.int .i64 0))] false, none⟩,
           ⟨some 3, .mv (.t 20), none⟩,
           ⟨none, .st (.t 4) (.t 22) 2, none⟩] [1, 3, 4, 16, 17, 18])
       (.seq (.reg [⟨some 23, .fld (.t 4) 0, none⟩,
            ⟨some 24, .ldl (.t 23) none, none⟩,
            ⟨some 25, .call 50 [(.t 24)], none⟩,
            ⟨some 26, .un .not (.t 25), none⟩,
            ⟨some 27, .mv (.t 26), none⟩,
            ⟨some 28, .fld (.t 4) 1, some (27, false)⟩,
            ⟨some 29, .ldl (.t 28) none, some (27, false)⟩,
            ⟨some 30, .bin .eql (.t 29) (.c (.d (.int .i64 0))), some (27, false)⟩,
            ⟨some 31, .pick (.t 27) (.c (.d (.bool true))) (.t 30), none⟩,
            ⟨some 32, .mv (.t 31), none⟩,
            ⟨some 33, .fld (.t 4) 1, some (32, false)⟩,
            ⟨some 34, .ldl (.t 33) none, some (32, false)⟩,
            ⟨some 35, .call 49 [(.t 34)], some (32, false)⟩,
            ⟨some 36, .un .not (.t 35), some (32, false)⟩,
            ⟨some 37, .pick (.t 32) (.c (.d (.bool true))) (.t 36), none⟩,
            ⟨some 38, .mv (.t 37), none⟩,
            ⟨some 39, .mv (.t 3), some (38, false)⟩,
            ⟨some 40, .bin .gtr (.t 39) (.c (.d (.int .i64 0))), some (38, false)⟩,
            ⟨some 41, .mv (.t 40), some (38, false)⟩,
            ⟨some 42, .fld (.t 1) 1, some (41, true)⟩,
            ⟨some 43, .ldl (.t 42) none, some (41, true)⟩,
            ⟨some 44, .mv (.t 3), some (41, true)⟩,
            ⟨some 45, .bin .sub (.t 44) (.c (.d (.int .i64 1))), some (41, true)⟩,
            ⟨some 46, .ix (.t 43) (.t 45) 2, some (41, true)⟩,
            ⟨some 47, .fld (.t 46) 0, some (41, true)⟩,
            ⟨some 48, .ld (.t 47) none, some (41, true)⟩,
            ⟨some 49, .fld (.t 4) 0, some (41, true)⟩,
            ⟨some 50, .ldl (.t 49) none, some (41, true)⟩,
            ⟨some 51, .bin .geq (.t 48) (.t 50), some (41, true)⟩,
            ⟨some 52, .pick (.t 41) (.t 51) (.c (.d (.bool false))), some (38, false)⟩,
            ⟨some 53, .pick (.t 38) (.c (.d (.bool true))) (.t 52), none⟩] [1, 16, 17, 18, 53])
        (.cond (.t 53) (.seq (.reg [⟨some 2, .mv (.c (.d (.bool false))), none⟩] [2])
          .ret)
         .skip))))
     (.reg [⟨some 54, .bin .add (.t 18) (.c (.d (.int .i64 1))), none⟩,
         ⟨some 18, .mv (.t 54), none⟩] [1, 16, 17, 18]))))

def c_linear_Valid : C := (.seq (.reg [⟨some 1, .box (.t 0) false, none⟩,
       ⟨some 2, .mv (.c (.d (.bool false))), none⟩] [1])
   (.seq (.seq (.reg [⟨some 5, .fld (.t 1) 0, none⟩,
         ⟨some 6, .ldl (.t 5) none, none⟩,
         ⟨some 7, .call 49 [(.t 6)], none⟩,
         ⟨some 8, .un .not (.t 7), none⟩,
         ⟨some 9, .mv (.t 8), none⟩,
         ⟨some 10, .fld (.t 1) 1, some (9, false)⟩,
         ⟨some 11, .ldl (.t 10) none, some (9, false)⟩,
         ⟨some 12, .len (.t 11), some (9, false)⟩,
         ⟨some 13, .bin .gtr (.t 12) (.c (.d (.int .i64 16))), some (9, false)⟩,
         ⟨some 14, .pick (.t 9) (.c (.d (.bool true))) (.t 13), none⟩] [1, 14])
     (.cond (.t 14) (.seq (.reg [⟨some 2, .mv (.c (.d (.bool false))), none⟩] [2])
       .ret)
      .skip))
    (.seq (.seq (.reg [⟨some 15, .fld (.t 1) 1, none⟩,
          ⟨some 16, .ldl (.t 15) none, none⟩,
          ⟨some 17, .len (.t 16), none⟩,
          ⟨some 18, .mv (.c (.d (.int .i64 0))), none⟩] [1, 16, 17, 18])
      (.block 0 (.loop c_linear_Valid_L0)))
     (.seq (.reg [⟨some 2, .mv (.c (.d (.bool true))), none⟩] [2])
      .ret))))

def t_linear_Valid : List (List Nat × PT) := [([1], .done), ([1, 14], .done), ([2], .done), ([1, 16, 17, 18], .done), ([1, 16, 17, 18, 19], .done), ([1, 3, 4, 16, 17, 18], .done), ([1, 16, 17, 18, 53], .done), ([2], .done), ([1, 16, 17, 18], .done), ([2], .done)]

noncomputable def x_linear_Valid : Cx := ⟨Tryd.prog, 35, Tryd.f35, 55, [300006, 300011, 300016, 300024, 300029, 300034, 300043, 300050], [], [.t 2]⟩
theorem g_linear_Valid : Good x_linear_Valid := ⟨Tryd.func35, by kernel_rfl⟩
theorem rs_linear_Valid : x_linear_Valid.rs = [.t 2] := rfl
theorem k_linear_Valid : compC Tryd.prog 55 [300006, 300011, 300016, 300024, 300029, 300034, 300043, 300050] [] (Tryd.f35.body.getD .skip) t_linear_Valid = some (c_linear_Valid, []) := by kernel_rfl
theorem b_linear_Valid : Tryd.f35.body = some (Tryd.f35.body.getD .skip) := by kernel_rfl
theorem i_linear_Valid {args : List AV} {σ : Heap} {K : AV → Heap → Prop} (hl : args.length ≤ 55) (h : Run x_linear_Valid K [.code c_linear_Valid] (argF args) E σ) : ACalls Tryd.prog 35 args σ K :=
  acalls_of (cx := x_linear_Valid) g_linear_Valid b_linear_Valid Tryd.ntmps35 hl (compC_rc x_linear_Valid _ _ _ _ k_linear_Valid) h

/-! ### amortcost/amortcostkeep.Lin -/
def c_keep_Lin : C := (.seq (.reg [⟨some 1, .box (.t 0) false, none⟩,
       ⟨some 2, .mv (.c (.d (.bool false))), none⟩] [1])
   (.seq (.reg [⟨some 3, .fld (.t 1) 1, none⟩,
        ⟨some 4, .ldl (.t 3) none, none⟩,
        ⟨some 5, .len (.t 4), none⟩,
        ⟨some 6, .bin .leq (.t 5) (.c (.d (.int .i64 70))), none⟩,
        ⟨some 2, .mv (.t 6), none⟩] [2])
    .ret))

def t_keep_Lin : List (List Nat × PT) := [([1], .done), ([2], .done)]

noncomputable def x_keep_Lin : Cx := ⟨Tryd.prog, 36, Tryd.f36, 7, [300004], [], [.t 2]⟩
theorem g_keep_Lin : Good x_keep_Lin := ⟨Tryd.func36, by kernel_rfl⟩
theorem rs_keep_Lin : x_keep_Lin.rs = [.t 2] := rfl
theorem k_keep_Lin : compC Tryd.prog 7 [300004] [] (Tryd.f36.body.getD .skip) t_keep_Lin = some (c_keep_Lin, []) := by kernel_rfl
theorem b_keep_Lin : Tryd.f36.body = some (Tryd.f36.body.getD .skip) := by kernel_rfl
theorem i_keep_Lin {args : List AV} {σ : Heap} {K : AV → Heap → Prop} (hl : args.length ≤ 7) (h : Run x_keep_Lin K [.code c_keep_Lin] (argF args) E σ) : ACalls Tryd.prog 36 args σ K :=
  acalls_of (cx := x_keep_Lin) g_keep_Lin b_keep_Lin Tryd.ntmps36 hl (compC_rc x_keep_Lin _ _ _ _ k_keep_Lin) h

/-! ### amortcost/linear.Compare -/
def c_linear_Compare : C := (.seq (.reg [⟨some 2, .box (.t 0) false, none⟩,
       ⟨some 3, .box (.t 1) false, none⟩,
       ⟨some 4, .mv (.c (.d (.int .i64 0))), none⟩] [2, 3])
   (.seq (.seq (.reg [⟨some 7, .fld (.t 2) 1, none⟩,
         ⟨some 8, .ldl (.t 7) none, none⟩,
         ⟨some 9, .len (.t 8), none⟩,
         ⟨some 10, .fld (.t 3) 1, none⟩,
         ⟨some 11, .ldl (.t 10) none, none⟩,
         ⟨some 12, .len (.t 11), none⟩,
         ⟨some 13, .call 64 [(.t 9), (.t 12)], none⟩,
         ⟨some 5, .mv (.t 13), none⟩] [2, 3, 5])
     (.seq (.reg [⟨some 14, .mv (.t 5), none⟩,
          ⟨some 15, .bin .neq (.t 14) (.c (.d (.int .i64 0))), none⟩] [2, 3, 5, 15])
      (.cond (.t 15) (.seq (.reg [⟨some 16, .mv (.t 5), none⟩,
            ⟨some 4, .mv (.t 16), none⟩] [4])
        .ret)
       .skip)))
    (.seq (.reg [⟨some 17, .fld (.t 2) 1, none⟩,
         ⟨some 18, .ldl (.t 17) none, none⟩,
         ⟨some 19, .fld (.t 3) 1, none⟩,
         ⟨some 20, .ldl (.t 19) none, none⟩,
         ⟨some 21, .call 65 [(.t 18), (.t 20), (.c (.fn 66 [] []))], none⟩,
         ⟨some 6, .mv (.t 21), none⟩] [2, 3, 6])
     (.seq (.reg [⟨some 22, .mv (.t 6), none⟩,
          ⟨some 23, .fld (.t 2) 0, none⟩,
          ⟨some 24, .ldl (.t 23) none, none⟩,
          ⟨some 25, .fld (.t 3) 0, none⟩,
          ⟨some 26, .ldl (.t 25) none, none⟩,
          ⟨some 27, .call 68 [(.t 24), (.t 26)], none⟩,
          ⟨some 28, .bsl 1 2 [(.d (.int .i64 0)), (.d (.int .i64 0))] [(0, 1, (.t 22)), (1, 1, (.t 27))], none⟩,
          ⟨some 29, .call 67 [(.t 28)], none⟩,
          ⟨some 4, .mv (.t 29), none⟩] [4])
      .ret))))

def t_linear_Compare : List (List Nat × PT) := [([2, 3], .done), ([2, 3, 5], .done), ([2, 3, 5, 15], .done), ([4], .done), ([2, 3, 6], .done), ([4], .done)]

noncomputable def x_linear_Compare : Cx := ⟨Tryd.prog, 37, Tryd.f37, 30, [300008, 300011, 300018, 300020, 300024, 300026], [], [.t 4]⟩
theorem g_linear_Compare : Good x_linear_Compare := ⟨Tryd.func37, by kernel_rfl⟩
theorem rs_linear_Compare : x_linear_Compare.rs = [.t 4] := rfl
theorem k_linear_Compare : compC Tryd.prog 30 [300008, 300011, 300018, 300020, 300024, 300026] [] (Tryd.f37.body.getD .skip) t_linear_Compare = some (c_linear_Compare, []) := by kernel_rfl
theorem b_linear_Compare : Tryd.f37.body = some (Tryd.f37.body.getD .skip) := by kernel_rfl
theorem i_linear_Compare {args : List AV} {σ : Heap} {K : AV → Heap → Prop} (hl : args.length ≤ 30) (h : Run x_linear_Compare K [.code c_linear_Compare] (argF args) E σ) : ACalls Tryd.prog 37 args σ K :=
  acalls_of (cx := x_linear_Compare) g_linear_Compare b_linear_Compare Tryd.ntmps37 hl (compC_rc x_linear_Compare _ _ _ _ k_linear_Compare) h

/-! ### amortcost/amortcostref19.Compare -/
/- slots of c_r19_Compare_L0 : [2, 3, 23, 24] -/
def c_r19_Compare_L0 : C := (.seq (.reg [⟨some 25, .bin .lss (.t 24) (.t 23), none⟩] [2, 3, 23, 24, 25])
   (.seq (.cond (.t 25) .skip
     (.exit 0))
    (.seq (.block 1 (.seq (.reg [⟨some 26, .mv (.t 24), none⟩,
           ⟨some 5, .mv (.t 26), none⟩] [2, 3, 5, 23, 24])
       (.seq (.seq (.reg [⟨some 27, .fld (.t 2) 1, none⟩,
             ⟨some 28, .ldl (.t 27) none, none⟩,
             ⟨some 29, .mv (.t 5), none⟩,
             ⟨some 30, .ix (.t 28) (.t 29) 2, none⟩,
             ⟨some 31, .fld (.t 30) 0, none⟩,
             ⟨some 32, .ld (.t 31) none, none⟩,
             ⟨some 33, .fld (.t 3) 1, none⟩,
             ⟨some 34, .ldl (.t 33) none, none⟩,
             ⟨some 35, .mv (.t 5), none⟩,
             ⟨some 36, .ix (.t 34) (.t 35) 2, none⟩,
             ⟨some 37, .fld (.t 36) 0, none⟩,
             ⟨some 38, .ld (.t 37) none, none⟩,
             ⟨some 39, .bin .neq (.t 32) (.t 38), none⟩] [2, 3, 5, 23, 24, 39])
         (.cond (.t 39) (.seq (.reg [⟨some 40, .fld (.t 2) 1, none⟩,
               ⟨some 41, .ldl (.t 40) none, none⟩,
               ⟨some 42, .mv (.t 5), none⟩,
               ⟨some 43, .ix (.t 41) (.t 42) 2, none⟩,
               ⟨some 44, .fld (.t 43) 0, none⟩,
               ⟨some 45, .ld (.t 44) none, none⟩,
               ⟨some 46, .fld (.t 3) 1, none⟩,
               ⟨some 47, .ldl (.t 46) none, none⟩,
               ⟨some 48, .mv (.t 5), none⟩,
               ⟨some 49, .ix (.t 47) (.t 48) 2, none⟩,
               ⟨some 50, .fld (.t 49) 0, none⟩,
               ⟨some 51, .ld (.t 50) none, none⟩,
               ⟨some 52, .bin .lss (.t 45) (.t 51), none⟩,
               ⟨some 53, .call 69 [(.t 52)], none⟩,
               ⟨some 4, .mv (.t 53), none⟩] [4])
           .ret)
          .skip))
        (.seq (.reg [⟨some 54, .fld (.t 2) 1, none⟩,
             ⟨some 55, .ldl (.t 54) none, none⟩,
             ⟨some 56, .mv (.t 5), none⟩,
             ⟨some 57, .ix (.t 55) (.t 56) 2, none⟩,
             ⟨some 58, .fld (.t 57) 1, none⟩,
             ⟨some 59, .ld (.t 58) none, none⟩,
             ⟨some 60, .fld (.t 3) 1, none⟩,
             ⟨some 61, .ldl (.t 60) none, none⟩,
             ⟨some 62, .mv (.t 5), none⟩,
             ⟨some 63, .ix (.t 61) (.t 62) 2, none⟩,
             ⟨some 64, .fld (.t 63) 1, none⟩,
             ⟨some 65, .ld (.t 64) none, none⟩,
             ⟨some 66, .bin .neq (.t 59) (.t 65), none⟩] [2, 3, 5, 23, 24, 66])
         (.cond (.t 66) (.seq (.reg [⟨some 67, .fld (.t 2) 1, none⟩,
               ⟨some 68, .ldl (.t 67) none, none⟩,
               ⟨some 69, .mv (.t 5), none⟩,
               ⟨some 70, .ix (.t 68) (.t 69) 2, none⟩,
               ⟨some 71, .fld (.t 70) 1, none⟩,
               ⟨some 72, .ld (.t 71) none, none⟩,
               ⟨some 73, .fld (.t 3) 1, none⟩,
               ⟨some 74, .ldl (.t 73) none, none⟩,
               ⟨some 75, .mv (.t 5), none⟩,
               ⟨some 76, .ix (.t 74) (.t 75) 2, none⟩,
               ⟨some 77, .fld (.t 76) 1, none⟩,
               ⟨some 78, .ld (.t 77) none, none⟩,
               ⟨some 79, .bin .lss (.t 72) (.t 78), none⟩,
               ⟨some 80, .call 69 [(.t 79)], none⟩,
               ⟨some 4, .mv (.t 80), none⟩] [4])
           .ret)
          .skip)))))
     (.reg [⟨some 81, .bin .add (.t 24) (.c (.d (.int .i64 1))), none⟩,
         ⟨some 24, .mv (.t 81), none⟩] [2, 3, 23, 24]))))

def c_r19_Compare : C := (.seq (.reg [⟨some 2, .box (.t 0) false, none⟩,
       ⟨some 3, .box (.t 1) false, none⟩,
       ⟨some 4, .mv (.c (.d (.int .i64 0))), none⟩] [2, 3])
   (.seq (.seq (.reg [⟨some 6, .fld (.t 2) 1, none⟩,
         ⟨some 7, .ldl (.t 6) none, none⟩,
         ⟨some 8, .len (.t 7), none⟩,
         ⟨some 9, .fld (.t 3) 1, none⟩,
         ⟨some 10, .ldl (.t 9) none, none⟩,
         ⟨some 11, .len (.t 10), none⟩,
         ⟨some 12, .bin .neq (.t 8) (.t 11), none⟩] [2, 3, 12])
     (.cond (.t 12) (.seq (.reg [⟨some 13, .fld (.t 2) 1, none⟩,
           ⟨some 14, .ldl (.t 13) none, none⟩,
           ⟨some 15, .len (.t 14), none⟩,
           ⟨some 16, .fld (.t 3) 1, none⟩,
           ⟨some 17, .ldl (.t 16) none, none⟩,
           ⟨some 18, .len (.t 17), none⟩,
           ⟨some 19, .bin .lss (.t 15) (.t 18), none⟩,
           ⟨some 20, .call 69 [(.t 19)], none⟩,
           ⟨some 4, .mv (.t 20), none⟩] [4])
       .ret)
      .skip))
    (.seq (.seq (.reg [⟨some 21, .fld (.t 2) 1, none⟩,
          ⟨some 22, .ldl (.t 21) none, none⟩,
          ⟨some 23, .len (.t 22), none⟩,
          ⟨some 24, .mv (.c (.d (.int .i64 0))), none⟩] [2, 3, 23, 24])
      (.block 0 (.loop c_r19_Compare_L0)))
     (.seq (.seq (.reg [⟨some 82, .fld (.t 2) 0, none⟩,
           ⟨some 83, .ldl (.t 82) none, none⟩,
           ⟨some 84, .fld (.t 3) 0, none⟩,
           ⟨some 85, .ldl (.t 84) none, none⟩,
           ⟨some 86, .bin .neq (.t 83) (.t 85), none⟩] [2, 3, 86])
       (.cond (.t 86) (.seq (.reg [⟨some 87, .fld (.t 2) 0, none⟩,
             ⟨some 88, .ldl (.t 87) none, none⟩,
             ⟨some 89, .fld (.t 3) 0, none⟩,
             ⟨some 90, .ldl (.t 89) none, none⟩,
             ⟨some 91, .bin .lss (.t 88) (.t 90), none⟩,
             ⟨some 92, .call 69 [(.t 91)], none⟩,
             ⟨some 4, .mv (.t 92), none⟩] [4])
         .ret)
        .skip))
      (.seq (.reg [⟨some 4, .mv (.c (.d (.int .i64 0))), none⟩] [4])
       .ret)))))

def t_r19_Compare : List (List Nat × PT) := [([2, 3], .done), ([2, 3, 12], .done), ([4], .done), ([2, 3, 23, 24], .done), ([2, 3, 23, 24, 25], .done), ([2, 3, 5, 23, 24], .done), ([2, 3, 5, 23, 24, 39], .done), ([4], .done), ([2, 3, 5, 23, 24, 66], .done), ([4], .done), ([2, 3, 23, 24], .done), ([2, 3, 86], .done), ([4], .done), ([4], .done)]

noncomputable def x_r19_Compare : Cx := ⟨Tryd.prog, 38, Tryd.f38, 93, [300007, 300010, 300014, 300017, 300022, 300028, 300034, 300041, 300047, 300055, 300061, 300068, 300074, 300083, 300085, 300088, 300090], [], [.t 4]⟩
theorem g_r19_Compare : Good x_r19_Compare := ⟨Tryd.func38, by kernel_rfl⟩
theorem rs_r19_Compare : x_r19_Compare.rs = [.t 4] := rfl
theorem k_r19_Compare : compC Tryd.prog 93 [300007, 300010, 300014, 300017, 300022, 300028, 300034, 300041, 300047, 300055, 300061, 300068, 300074, 300083, 300085, 300088, 300090] [] (Tryd.f38.body.getD .skip) t_r19_Compare = some (c_r19_Compare, []) := by kernel_rfl
theorem b_r19_Compare : Tryd.f38.body = some (Tryd.f38.body.getD .skip) := by kernel_rfl
theorem i_r19_Compare {args : List AV} {σ : Heap} {K : AV → Heap → Prop} (hl : args.length ≤ 93) (h : Run x_r19_Compare K [.code c_r19_Compare] (argF args) E σ) : ACalls Tryd.prog 38 args σ K :=
  acalls_of (cx := x_r19_Compare) g_r19_Compare b_r19_Compare Tryd.ntmps38 hl (compC_rc x_r19_Compare _ _ _ _ k_r19_Compare) h

/-! ### amortcost/linear.Mentions -/
/- slots of c_linear_Mentions_L0 : [1, 5, 6, 11, 12, 13] -/
def c_linear_Mentions_L0 : C := (.seq (.reg [⟨some 14, .bin .lss (.t 13) (.t 12), none⟩] [1, 5, 6, 11, 12, 13, 14])
   (.seq (.cond (.t 14) .skip
     (.exit 0))
    (.seq (.block 1 (.seq (.reg [⟨some 15, .ix (.t 11) (.t 13) 2, none⟩,
           ⟨some 16, .ld (.t 15) (some 2), none⟩,
           ⟨some 8, .al [(.d (.int .i64 0)), (.d (.int .i64 0))] false, none⟩,
           ⟨none, .st (.t 8) (.t 16) 2, none⟩] [1, 5, 6, 8, 11, 12, 13])
       (.seq (.reg [⟨some 17, .fld (.t 8) 0, none⟩,
            ⟨some 18, .ldl (.t 17) none, none⟩,
            ⟨some 19, .mv (.t 1), none⟩,
            ⟨some 20, .bin .eql (.t 18) (.t 19), none⟩] [1, 5, 6, 11, 12, 13, 20])
        (.cond (.t 20) (.seq (.reg [⟨some 9, .mv (.c (.d (.int .u64 0))), none⟩] [])
          (.seq .bad
           .bad))
         .skip))))
     (.reg [⟨some 39, .bin .add (.t 13) (.c (.d (.int .i64 1))), none⟩,
         ⟨some 13, .mv (.t 39), none⟩] [1, 5, 6, 11, 12, 13]))))

def c_linear_Mentions : C := (.seq (.reg [⟨some 2, .box (.t 0) false, none⟩,
       ⟨some 4, .mv (.c (.d (.bool false))), none⟩] [1, 2])
   (.seq (.reg [⟨some 5, .mv (.c (.d (.int .u64 0))), none⟩,
        ⟨some 6, .mv (.c (.d (.int .u64 0))), none⟩] [1, 2, 5, 6])
    (.seq (.seq (.reg [⟨some 10, .fld (.t 2) 1, none⟩,
          ⟨some 11, .ldl (.t 10) none, none⟩,
          ⟨some 12, .len (.t 11), none⟩,
          ⟨some 13, .mv (.c (.d (.int .i64 0))), none⟩] [1, 5, 6, 11, 12, 13])
      (.block 0 (.loop c_linear_Mentions_L0)))
     (.seq (.reg [⟨some 40, .mv (.t 5), none⟩,
          ⟨some 41, .bin .neq (.t 40) (.c (.d (.int .u64 0))), none⟩,
          ⟨some 42, .mv (.t 41), none⟩,
          ⟨some 43, .mv (.t 6), some (42, false)⟩,
          ⟨some 44, .bin .neq (.t 43) (.c (.d (.int .u64 0))), some (42, false)⟩,
          ⟨some 45, .pick (.t 42) (.c (.d (.bool true))) (.t 44), none⟩,
          ⟨some 4, .mv (.t 45), none⟩] [4])
      .ret))))

def t_linear_Mentions : List (List Nat × PT) := [([1, 2], .done), ([1, 2, 5, 6], .done), ([1, 5, 6, 11, 12, 13], .done), ([1, 5, 6, 11, 12, 13, 14], .done), ([1, 5, 6, 8, 11, 12, 13], .done), ([1, 5, 6, 11, 12, 13, 20], .done), ([], .done), ([], .done), ([], .done), ([1, 5, 6, 11, 12, 13], .done), ([4], .done)]

noncomputable def x_linear_Mentions : Cx := ⟨Tryd.prog, 39, Tryd.f39, 46, [300011, 300018, 300024, 300032], [], [.t 4]⟩
theorem g_linear_Mentions : Good x_linear_Mentions := ⟨Tryd.func39, by kernel_rfl⟩
theorem rs_linear_Mentions : x_linear_Mentions.rs = [.t 4] := rfl
theorem k_linear_Mentions : compC Tryd.prog 46 [300011, 300018, 300024, 300032] [] (Tryd.f39.body.getD .skip) t_linear_Mentions = some (c_linear_Mentions, []) := by kernel_rfl
theorem b_linear_Mentions : Tryd.f39.body = some (Tryd.f39.body.getD .skip) := by kernel_rfl
theorem i_linear_Mentions {args : List AV} {σ : Heap} {K : AV → Heap → Prop} (hl : args.length ≤ 46) (h : Run x_linear_Mentions K [.code c_linear_Mentions] (argF args) E σ) : ACalls Tryd.prog 39 args σ K :=
  acalls_of (cx := x_linear_Mentions) g_linear_Mentions b_linear_Mentions Tryd.ntmps39 hl (compC_rc x_linear_Mentions _ _ _ _ k_linear_Mentions) h

/-! ### amortcost/amortcostref19.Mentions -/
/- slots of c_r19_Mentions_L0 : [1, 5, 10, 11, 12] -/
def c_r19_Mentions_L0 : C := (.seq (.reg [⟨some 13, .bin .lss (.t 12) (.t 11), none⟩] [1, 5, 10, 11, 12, 13])
   (.seq (.cond (.t 13) .skip
     (.exit 0))
    (.seq (.block 1 (.seq (.reg [⟨some 14, .ix (.t 10) (.t 12) 2, none⟩,
           ⟨some 15, .ld (.t 14) (some 2), none⟩,
           ⟨some 7, .al [(.d (.int .i64 0)), (.d (.int .i64 0))] false, none⟩,
           ⟨none, .st (.t 7) (.t 15) 2, none⟩] [1, 5, 7, 10, 11, 12])
       (.seq (.reg [⟨some 16, .fld (.t 7) 0, none⟩,
            ⟨some 17, .ldl (.t 16) none, none⟩,
            ⟨some 18, .mv (.t 1), none⟩,
            ⟨some 19, .bin .eql (.t 17) (.t 18), none⟩] [1, 5, 7, 10, 11, 12, 19])
        (.cond (.t 19) (.reg [⟨some 20, .ldl (.t 5) (some 3), none⟩,
             ⟨some 21, .fld (.t 7) 1, none⟩,
             ⟨some 22, .ldl (.t 21) none, none⟩,
             ⟨some 23, .call 71 [(.t 22)], none⟩,
             ⟨some 24, .call 72 [(.t 20), (.t 23)], none⟩,
             ⟨none, .st (.t 5) (.t 24) 3, none⟩] [1, 5, 10, 11, 12])
         .skip))))
     (.reg [⟨some 25, .bin .add (.t 12) (.c (.d (.int .i64 1))), none⟩,
         ⟨some 12, .mv (.t 25), none⟩] [1, 5, 10, 11, 12]))))

def c_r19_Mentions : C := (.seq (.reg [⟨some 2, .box (.t 0) false, none⟩,
       ⟨some 4, .mv (.c (.d (.bool false))), none⟩] [1, 2])
   (.seq (.reg [⟨some 8, .call 71 [(.c (.d (.int .i64 0)))], none⟩,
        ⟨some 5, .al [(.d (.bool false)), .nils, .nils] false, none⟩,
        ⟨none, .st (.t 5) (.t 8) 3, none⟩] [1, 2, 5])
    (.seq (.seq (.reg [⟨some 9, .fld (.t 2) 1, none⟩,
          ⟨some 10, .ldl (.t 9) none, none⟩,
          ⟨some 11, .len (.t 10), none⟩,
          ⟨some 12, .mv (.c (.d (.int .i64 0))), none⟩] [1, 5, 10, 11, 12])
      (.block 0 (.loop c_r19_Mentions_L0)))
     (.seq (.reg [⟨some 26, .ldl (.t 5) (some 3), none⟩,
          ⟨some 27, .call 73 [(.t 26)], none⟩,
          ⟨some 28, .bin .neq (.t 27) (.c (.d (.int .i64 0))), none⟩,
          ⟨some 4, .mv (.t 28), none⟩] [4])
      .ret))))

def t_r19_Mentions : List (List Nat × PT) := [([1, 2], .done), ([1, 2, 5], .done), ([1, 5, 10, 11, 12], .done), ([1, 5, 10, 11, 12, 13], .done), ([1, 5, 7, 10, 11, 12], .done), ([1, 5, 7, 10, 11, 12, 19], .done), ([1, 5, 10, 11, 12], .done), ([1, 5, 10, 11, 12], .done), ([4], .done)]

noncomputable def x_r19_Mentions : Cx := ⟨Tryd.prog, 40, Tryd.f40, 29, [300010, 300017, 300020, 300022, 300026], [], [.t 4]⟩
theorem g_r19_Mentions : Good x_r19_Mentions := ⟨Tryd.func40, by kernel_rfl⟩
theorem rs_r19_Mentions : x_r19_Mentions.rs = [.t 4] := rfl
theorem k_r19_Mentions : compC Tryd.prog 29 [300010, 300017, 300020, 300022, 300026] [] (Tryd.f40.body.getD .skip) t_r19_Mentions = some (c_r19_Mentions, []) := by kernel_rfl
theorem b_r19_Mentions : Tryd.f40.body = some (Tryd.f40.body.getD .skip) := by kernel_rfl
theorem i_r19_Mentions {args : List AV} {σ : Heap} {K : AV → Heap → Prop} (hl : args.length ≤ 29) (h : Run x_r19_Mentions K [.code c_r19_Mentions] (argF args) E σ) : ACalls Tryd.prog 40 args σ K :=
  acalls_of (cx := x_r19_Mentions) g_r19_Mentions b_r19_Mentions Tryd.ntmps40 hl (compC_rc x_r19_Mentions _ _ _ _ k_r19_Mentions) h

/-! ### amortcost/linear.Subst -/
/- slots of c_linear_Subst_L0 : [1, 2, 6, 8, 9, 33, 34, 35] -/
def c_linear_Subst_L0 : C := (.seq (.reg [⟨some 36, .bin .lss (.t 35) (.t 34), none⟩] [1, 2, 6, 8, 9, 33, 34, 35, 36])
   (.seq (.cond (.t 36) .skip
     (.exit 0))
    (.seq (.block 1 (.seq (.reg [⟨some 37, .ix (.t 33) (.t 35) 2, none⟩,
           ⟨some 38, .ld (.t 37) (some 2), none⟩,
           ⟨some 11, .al [(.d (.int .i64 0)), (.d (.int .i64 0))] false, none⟩,
           ⟨none, .st (.t 11) (.t 38) 2, none⟩] [1, 2, 6, 8, 9, 11, 33, 34, 35])
       (.seq (.reg [⟨some 39, .mv (.t 1), none⟩,
            ⟨some 40, .fld (.t 11) 0, none⟩,
            ⟨some 41, .ldl (.t 40) none, none⟩,
            ⟨some 42, .call 77 [(.t 39), (.t 41)], none⟩,
            ⟨some 12, .mv (.t 42), none⟩] [1, 2, 6, 8, 9, 11, 12, 33, 34, 35])
        (.seq (.seq (.reg [⟨some 43, .mv (.t 12), none⟩,
              ⟨some 44, .bin .lss (.t 43) (.c (.d (.int .i64 0))), none⟩] [1, 2, 6, 8, 9, 11, 12, 33, 34, 35, 44])
          (.cond (.t 44) (.seq (.reg [⟨some 45, .mv (.t 9), none⟩,
                ⟨some 46, .ldl (.t 11) (some 2), none⟩,
                ⟨some 47, .bsl 2 1 [(.d (.int .i64 0)), (.d (.int .i64 0))] [(0, 2, (.t 46))], none⟩,
                ⟨some 48, .app 49 2 16 (.t 45) (.t 47), none⟩,
                ⟨some 9, .mv (.t 48), none⟩] [1, 2, 6, 8, 9, 33, 34, 35])
            (.exit 1))
           .skip))
         (.seq (.reg [⟨some 49, .mv (.t 8), none⟩,
              ⟨some 50, .fld (.t 11) 1, none⟩,
              ⟨some 51, .ldl (.t 50) none, none⟩,
              ⟨some 52, .mv (.t 2), none⟩,
              ⟨some 53, .mv (.t 12), none⟩,
              ⟨some 54, .ix (.t 52) (.t 53) 2, none⟩,
              ⟨some 55, .fld (.t 54) 0, none⟩,
              ⟨some 56, .ld (.t 55) none, none⟩,
              ⟨some 57, .bin .mul (.t 51) (.t 56), none⟩,
              ⟨some 58, .bin .add (.t 49) (.t 57), none⟩,
              ⟨some 8, .mv (.t 58), none⟩] [1, 2, 6, 8, 9, 11, 12, 33, 34, 35])
          (.reg [⟨some 59, .mv (.t 9), none⟩,
              ⟨some 60, .mv (.t 2), none⟩,
              ⟨some 61, .mv (.t 12), none⟩,
              ⟨some 62, .ix (.t 60) (.t 61) 2, none⟩,
              ⟨some 63, .fld (.t 62) 1, none⟩,
              ⟨some 64, .ld (.t 63) none, none⟩,
              ⟨some 65, .fld (.t 11) 1, none⟩,
              ⟨some 66, .ldl (.t 65) none, none⟩,
              ⟨some 67, .call 61 [(.t 64), (.t 66)], none⟩,
              ⟨some 68, .app 49 2 16 (.t 59) (.t 67), none⟩,
              ⟨some 9, .mv (.t 68), none⟩] [1, 2, 6, 8, 9, 33, 34, 35]))))))
     (.reg [⟨some 69, .bin .add (.t 35) (.c (.d (.int .i64 1))), none⟩,
         ⟨some 35, .mv (.t 69), none⟩] [1, 2, 6, 8, 9, 33, 34, 35]))))

def c_linear_Subst : C := (.seq (.reg [⟨some 3, .box (.t 0) false, none⟩,
       ⟨some 6, .al [(.d (.int .i64 0)), .nils] false, none⟩,
       ⟨some 7, .mv (.c (.d (.int .i64 0))), none⟩] [1, 2, 3, 6])
   (.seq (.seq (.reg [⟨some 13, .ldl (.t 3) (some 2), none⟩,
         ⟨some 14, .call 35 [(.t 13)], none⟩,
         ⟨some 15, .un .not (.t 14), none⟩,
         ⟨some 16, .mv (.t 15), none⟩,
         ⟨some 17, .mv (.t 2), some (16, false)⟩,
         ⟨some 18, .call 74 [(.t 17), (.c (.fn 75 [] []))], some (16, false)⟩,
         ⟨some 19, .pick (.t 16) (.c (.d (.bool true))) (.t 18), none⟩] [1, 2, 3, 6, 19])
     (.cond (.t 19) (.seq (.reg [⟨some 20, .bld [(.d (.int .i64 0)), .nils] [], none⟩,
           ⟨none, .st (.t 6) (.t 20) 2, none⟩,
           ⟨some 7, .mv (.c (.d (.int .i64 1))), none⟩] [6, 7])
       .ret)
      .skip))
    (.seq (.seq (.reg [⟨some 21, .mv (.t 1), none⟩,
          ⟨some 22, .len (.t 21), none⟩,
          ⟨some 23, .mv (.t 2), none⟩,
          ⟨some 24, .len (.t 23), none⟩,
          ⟨some 25, .bin .neq (.t 22) (.t 24), none⟩] [1, 2, 3, 6, 25])
      (.cond (.t 25) (.seq (.reg [⟨some 26, .bld [(.d (.int .i64 0)), .nils] [], none⟩,
            ⟨none, .st (.t 6) (.t 26) 2, none⟩,
            ⟨some 7, .mv (.c (.d (.int .i64 5))), none⟩] [6, 7])
        .ret)
       .skip))
     (.seq (.seq (.reg [⟨some 27, .mv (.t 1), none⟩,
           ⟨some 28, .call 76 [(.t 27)], none⟩] [1, 2, 3, 6, 28])
       (.cond (.t 28) (.seq (.reg [⟨some 29, .bld [(.d (.int .i64 0)), .nils] [], none⟩,
             ⟨none, .st (.t 6) (.t 29) 2, none⟩,
             ⟨some 7, .mv (.c (.d (.int .i64 4))), none⟩] [6, 7])
         .ret)
        .skip))
      (.seq (.reg [⟨some 30, .fld (.t 3) 0, none⟩,
           ⟨some 31, .ldl (.t 30) none, none⟩,
           ⟨some 8, .mv (.t 31), none⟩] [1, 2, 3, 6, 8])
       (.seq (.reg [⟨some 9, .mv (.c .nils), none⟩] [1, 2, 3, 6, 8, 9])
        (.seq (.seq (.reg [⟨some 32, .fld (.t 3) 1, none⟩,
              ⟨some 33, .ldl (.t 32) none, none⟩,
              ⟨some 34, .len (.t 33), none⟩,
              ⟨some 35, .mv (.c (.d (.int .i64 0))), none⟩] [1, 2, 6, 8, 9, 33, 34, 35])
          (.block 0 (.loop c_linear_Subst_L0)))
         (.seq (.reg [⟨some 70, .mv (.t 8), none⟩,
              ⟨some 71, .mv (.t 9), none⟩,
              ⟨some 72, .call 57 [(.t 70), (.t 71)], none⟩,
              ⟨some 73, .ext (.t 72) 0, none⟩,
              ⟨some 74, .ext (.t 72) 1, none⟩,
              ⟨none, .st (.t 6) (.t 73) 2, none⟩,
              ⟨some 7, .mv (.t 74), none⟩] [6, 7])
          .ret))))))))

def t_linear_Subst : List (List Nat × PT) := [([1, 2, 3, 6], .done), ([1, 2, 3, 6, 19], .done), ([6, 7], .done), ([1, 2, 3, 6, 25], .done), ([6, 7], .done), ([1, 2, 3, 6, 28], .done), ([6, 7], .done), ([1, 2, 3, 6, 8], .done), ([1, 2, 3, 6, 8, 9], .done), ([1, 2, 6, 8, 9, 33, 34, 35], .done), ([1, 2, 6, 8, 9, 33, 34, 35, 36], .done), ([1, 2, 6, 8, 9, 11, 33, 34, 35], .done), ([1, 2, 6, 8, 9, 11, 12, 33, 34, 35], .done), ([1, 2, 6, 8, 9, 11, 12, 33, 34, 35, 44], .done), ([1, 2, 6, 8, 9, 33, 34, 35], .done), ([1, 2, 6, 8, 9, 11, 12, 33, 34, 35], .done), ([1, 2, 6, 8, 9, 33, 34, 35], .done), ([1, 2, 6, 8, 9, 33, 34, 35], .done), ([6, 7], .done)]

noncomputable def x_linear_Subst : Cx := ⟨Tryd.prog, 41, Tryd.f41, 75, [300013, 300031, 300033, 300041, 300046, 300051, 300066], [], [.c 6 (some 2), .t 7]⟩
theorem g_linear_Subst : Good x_linear_Subst := ⟨Tryd.func41, by kernel_rfl⟩
theorem rs_linear_Subst : x_linear_Subst.rs = [.c 6 (some 2), .t 7] := rfl
theorem k_linear_Subst : compC Tryd.prog 75 [300013, 300031, 300033, 300041, 300046, 300051, 300066] [] (Tryd.f41.body.getD .skip) t_linear_Subst = some (c_linear_Subst, []) := by kernel_rfl
theorem b_linear_Subst : Tryd.f41.body = some (Tryd.f41.body.getD .skip) := by kernel_rfl
theorem i_linear_Subst {args : List AV} {σ : Heap} {K : AV → Heap → Prop} (hl : args.length ≤ 75) (h : Run x_linear_Subst K [.code c_linear_Subst] (argF args) E σ) : ACalls Tryd.prog 41 args σ K :=
  acalls_of (cx := x_linear_Subst) g_linear_Subst b_linear_Subst Tryd.ntmps41 hl (compC_rc x_linear_Subst _ _ _ _ k_linear_Subst) h

/-! ### amortcost/amortcostref19.Subst -/
/- slots of c_r19_Subst_L0 : [1, 2, 3, 6, 21, 22, 23] -/
def c_r19_Subst_L0 : C := (.seq (.reg [⟨some 24, .bin .lss (.t 23) (.t 22), none⟩] [1, 2, 3, 6, 21, 22, 23, 24])
   (.seq (.cond (.t 24) .skip
     (.exit 0))
    (.seq (.block 1 (.seq (.reg [⟨some 25, .ix (.t 21) (.t 23) 2, none⟩,
           ⟨some 26, .ld (.t 25) (some 2), none⟩,
           ⟨some 9, .al [(.d (.int .i64 0)), .nils] false, none⟩,
           ⟨none, .st (.t 9) (.t 26) 2, none⟩] [1, 2, 3, 6, 9, 21, 22, 23])
       (.seq (.reg [⟨some 27, .ldl (.t 9) (some 2), none⟩,
            ⟨some 28, .call 26 [(.t 27)], none⟩,
            ⟨some 29, .un .not (.t 28), none⟩] [1, 2, 3, 6, 21, 22, 23, 29])
        (.cond (.t 29) (.seq (.reg [⟨some 30, .bld [(.d (.int .i64 0)), .nils] [], none⟩,
              ⟨none, .st (.t 6) (.t 30) 2, none⟩,
              ⟨some 7, .mv (.c (.d (.int .i64 1))), none⟩] [6, 7])
          .ret)
         .skip))))
     (.reg [⟨some 31, .bin .add (.t 23) (.c (.d (.int .i64 1))), none⟩,
         ⟨some 23, .mv (.t 31), none⟩] [1, 2, 3, 6, 21, 22, 23]))))

/- slots of c_r19_Subst_L1 : [1, 2, 3, 6, 10, 11, 39, 40] -/
def c_r19_Subst_L1 : C := (.seq (.seq (.reg [⟨some 43, .mv (.t 11), none⟩,
        ⟨some 44, .mv (.t 10), none⟩,
        ⟨some 45, .bin .lss (.t 43) (.t 44), none⟩] [1, 2, 3, 6, 10, 11, 39, 40, 45])
    (.cond (.t 45) .skip
     (.exit 4)))
   (.seq (.block 5 (.seq (.reg [⟨some 48, .mv (.t 1), none⟩,
          ⟨some 49, .mv (.t 10), none⟩,
          ⟨some 50, .ix (.t 48) (.t 49) 1, none⟩,
          ⟨some 51, .ld (.t 50) none, none⟩,
          ⟨some 52, .mv (.t 1), none⟩,
          ⟨some 53, .mv (.t 11), none⟩,
          ⟨some 54, .ix (.t 52) (.t 53) 1, none⟩,
          ⟨some 55, .ld (.t 54) none, none⟩,
          ⟨some 56, .bin .eql (.t 51) (.t 55), none⟩] [1, 2, 3, 6, 10, 11, 39, 40, 56])
      (.cond (.t 56) (.seq (.reg [⟨some 57, .bld [(.d (.int .i64 0)), .nils] [], none⟩,
            ⟨none, .st (.t 6) (.t 57) 2, none⟩,
            ⟨some 7, .mv (.c (.d (.int .i64 4))), none⟩] [6, 7])
        .ret)
       .skip)))
    (.reg [⟨some 46, .mv (.t 11), none⟩,
        ⟨some 47, .bin .add (.t 46) (.c (.d (.int .i64 1))), none⟩,
        ⟨some 11, .mv (.t 47), none⟩] [1, 2, 3, 6, 10, 11, 39, 40])))

/- slots of c_r19_Subst_L2 : [1, 2, 3, 6, 39, 40] -/
def c_r19_Subst_L2 : C := (.seq (.reg [⟨some 41, .bin .lss (.t 40) (.t 39), none⟩] [1, 2, 3, 6, 39, 40, 41])
   (.seq (.cond (.t 41) .skip
     (.exit 2))
    (.seq (.block 3 (.seq (.reg [⟨some 42, .mv (.t 40), none⟩,
           ⟨some 10, .mv (.t 42), none⟩] [1, 2, 3, 6, 10, 39, 40])
       (.seq (.reg [⟨some 11, .mv (.c (.d (.int .i64 0))), none⟩] [1, 2, 3, 6, 10, 11, 39, 40])
        (.block 4 (.loop c_r19_Subst_L1)))))
     (.reg [⟨some 58, .bin .add (.t 40) (.c (.d (.int .i64 1))), none⟩,
         ⟨some 40, .mv (.t 58), none⟩] [1, 2, 3, 6, 39, 40]))))

/- slots of c_r19_Subst_L3 : [1, 2, 6, 12, 14, 15, 63, 64, 65, 73, 74] -/
def c_r19_Subst_L3 : C := (.seq (.reg [⟨some 75, .bin .lss (.t 74) (.t 73), none⟩] [1, 2, 6, 12, 14, 15, 63, 64, 65, 73, 74, 75])
   (.seq (.cond (.t 75) .skip
     (.exit 8))
    (.seq (.block 9 (.seq (.reg [⟨some 76, .mv (.t 74), none⟩,
           ⟨some 16, .mv (.t 76), none⟩] [1, 2, 6, 12, 14, 15, 16, 63, 64, 65, 73, 74])
       (.seq (.reg [⟨some 77, .mv (.t 1), none⟩,
            ⟨some 78, .mv (.t 16), none⟩,
            ⟨some 79, .ix (.t 77) (.t 78) 1, none⟩,
            ⟨some 80, .ld (.t 79) none, none⟩,
            ⟨some 81, .fld (.t 14) 0, none⟩,
            ⟨some 82, .ldl (.t 81) none, none⟩,
            ⟨some 83, .bin .eql (.t 80) (.t 82), none⟩] [1, 2, 6, 12, 14, 15, 16, 63, 64, 65, 73, 74, 83])
        (.cond (.t 83) (.reg [⟨some 84, .mv (.t 2), none⟩,
             ⟨some 85, .mv (.t 16), none⟩,
             ⟨some 86, .ix (.t 84) (.t 85) 2, none⟩,
             ⟨some 87, .ld (.t 86) (some 2), none⟩,
             ⟨none, .st (.t 15) (.t 87) 2, none⟩] [1, 2, 6, 12, 14, 15, 63, 64, 65, 73, 74])
         .skip))))
     (.reg [⟨some 88, .bin .add (.t 74) (.c (.d (.int .i64 1))), none⟩,
         ⟨some 74, .mv (.t 88), none⟩] [1, 2, 6, 12, 14, 15, 63, 64, 65, 73, 74]))))

/- slots of c_r19_Subst_L4 : [1, 2, 6, 12, 63, 64, 65] -/
def c_r19_Subst_L4 : C := (.seq (.reg [⟨some 66, .bin .lss (.t 65) (.t 64), none⟩] [1, 2, 6, 12, 63, 64, 65, 66])
   (.seq (.cond (.t 66) .skip
     (.exit 6))
    (.seq (.block 7 (.seq (.reg [⟨some 67, .ix (.t 63) (.t 65) 2, none⟩,
           ⟨some 68, .ld (.t 67) (some 2), none⟩,
           ⟨some 14, .al [(.d (.int .i64 0)), (.d (.int .i64 0))] false, none⟩,
           ⟨none, .st (.t 14) (.t 68) 2, none⟩] [1, 2, 6, 12, 14, 63, 64, 65])
       (.seq (.reg [⟨some 69, .fld (.t 14) 0, none⟩,
            ⟨some 70, .ldl (.t 69) none, none⟩,
            ⟨some 71, .call 21 [(.t 70)], none⟩,
            ⟨some 15, .al [(.d (.int .i64 0)), .nils] false, none⟩,
            ⟨none, .st (.t 15) (.t 71) 2, none⟩] [1, 2, 6, 12, 14, 15, 63, 64, 65])
        (.seq (.seq (.reg [⟨some 72, .mv (.t 1), none⟩,
              ⟨some 73, .len (.t 72), none⟩,
              ⟨some 74, .mv (.c (.d (.int .i64 0))), none⟩] [1, 2, 6, 12, 14, 15, 63, 64, 65, 73, 74])
          (.block 8 (.loop c_r19_Subst_L3)))
         (.reg [⟨some 89, .ldl (.t 12) (some 2), none⟩,
             ⟨some 90, .ldl (.t 15) (some 2), none⟩,
             ⟨some 91, .fld (.t 14) 1, none⟩,
             ⟨some 92, .ldl (.t 91) none, none⟩,
             ⟨some 93, .call 60 [(.t 89), (.t 90), (.t 92)], none⟩,
             ⟨none, .st (.t 12) (.t 93) 2, none⟩] [1, 2, 6, 12, 63, 64, 65])))))
     (.reg [⟨some 94, .bin .add (.t 65) (.c (.d (.int .i64 1))), none⟩,
         ⟨some 65, .mv (.t 94), none⟩] [1, 2, 6, 12, 63, 64, 65]))))

def c_r19_Subst : C := (.seq (.reg [⟨some 3, .box (.t 0) false, none⟩,
       ⟨some 6, .al [(.d (.int .i64 0)), .nils] false, none⟩,
       ⟨some 7, .mv (.c (.d (.int .i64 0))), none⟩] [1, 2, 3, 6])
   (.seq (.seq (.reg [⟨some 17, .ldl (.t 3) (some 2), none⟩,
         ⟨some 18, .call 26 [(.t 17)], none⟩,
         ⟨some 19, .un .not (.t 18), none⟩] [1, 2, 3, 6, 19])
     (.cond (.t 19) (.seq (.reg [⟨some 20, .bld [(.d (.int .i64 0)), .nils] [], none⟩,
           ⟨none, .st (.t 6) (.t 20) 2, none⟩,
           ⟨some 7, .mv (.c (.d (.int .i64 1))), none⟩] [6, 7])
       .ret)
      .skip))
    (.seq (.seq (.reg [⟨some 21, .mv (.t 2), none⟩,
          ⟨some 22, .len (.t 21), none⟩,
          ⟨some 23, .mv (.c (.d (.int .i64 0))), none⟩] [1, 2, 3, 6, 21, 22, 23])
      (.block 0 (.loop c_r19_Subst_L0)))
     (.seq (.seq (.reg [⟨some 32, .mv (.t 1), none⟩,
           ⟨some 33, .len (.t 32), none⟩,
           ⟨some 34, .mv (.t 2), none⟩,
           ⟨some 35, .len (.t 34), none⟩,
           ⟨some 36, .bin .neq (.t 33) (.t 35), none⟩] [1, 2, 3, 6, 36])
       (.cond (.t 36) (.seq (.reg [⟨some 37, .bld [(.d (.int .i64 0)), .nils] [], none⟩,
             ⟨none, .st (.t 6) (.t 37) 2, none⟩,
             ⟨some 7, .mv (.c (.d (.int .i64 5))), none⟩] [6, 7])
         .ret)
        .skip))
      (.seq (.seq (.reg [⟨some 38, .mv (.t 1), none⟩,
            ⟨some 39, .len (.t 38), none⟩,
            ⟨some 40, .mv (.c (.d (.int .i64 0))), none⟩] [1, 2, 3, 6, 39, 40])
        (.block 2 (.loop c_r19_Subst_L2)))
       (.seq (.reg [⟨some 59, .fld (.t 3) 0, none⟩,
            ⟨some 60, .ldl (.t 59) none, none⟩,
            ⟨some 61, .bld [(.d (.int .i64 0)), .nils] [(0, 1, (.t 60))], none⟩,
            ⟨some 12, .al [(.d (.int .i64 0)), .nils] false, none⟩,
            ⟨none, .st (.t 12) (.t 61) 2, none⟩] [1, 2, 3, 6, 12])
        (.seq (.seq (.reg [⟨some 62, .fld (.t 3) 1, none⟩,
              ⟨some 63, .ldl (.t 62) none, none⟩,
              ⟨some 64, .len (.t 63), none⟩,
              ⟨some 65, .mv (.c (.d (.int .i64 0))), none⟩] [1, 2, 6, 12, 63, 64, 65])
          (.block 6 (.loop c_r19_Subst_L4)))
         (.seq (.reg [⟨some 95, .ldl (.t 12) (some 2), none⟩,
              ⟨some 96, .call 59 [(.t 95)], none⟩,
              ⟨some 97, .ext (.t 96) 0, none⟩,
              ⟨some 98, .ext (.t 96) 1, none⟩,
              ⟨none, .st (.t 6) (.t 97) 2, none⟩,
              ⟨some 7, .mv (.t 98), none⟩] [6, 7])
          .ret))))))))

def t_r19_Subst : List (List Nat × PT) := [([1, 2, 3, 6], .done), ([1, 2, 3, 6, 19], .done), ([6, 7], .done), ([1, 2, 3, 6, 21, 22, 23], .done), ([1, 2, 3, 6, 21, 22, 23, 24], .done), ([1, 2, 3, 6, 9, 21, 22, 23], .done), ([1, 2, 3, 6, 21, 22, 23, 29], .done), ([6, 7], .done), ([1, 2, 3, 6, 21, 22, 23], .done), ([1, 2, 3, 6, 36], .done), ([6, 7], .done), ([1, 2, 3, 6, 39, 40], .done), ([1, 2, 3, 6, 39, 40, 41], .done), ([1, 2, 3, 6, 10, 39, 40], .done), ([1, 2, 3, 6, 10, 11, 39, 40], .done), ([1, 2, 3, 6, 10, 11, 39, 40, 45], .done), ([1, 2, 3, 6, 10, 11, 39, 40, 56], .done), ([6, 7], .done), ([1, 2, 3, 6, 10, 11, 39, 40], .done), ([1, 2, 3, 6, 39, 40], .done), ([1, 2, 3, 6, 12], .done), ([1, 2, 6, 12, 63, 64, 65], .done), ([1, 2, 6, 12, 63, 64, 65, 66], .done), ([1, 2, 6, 12, 14, 63, 64, 65], .done), ([1, 2, 6, 12, 14, 15, 63, 64, 65], .done), ([1, 2, 6, 12, 14, 15, 63, 64, 65, 73, 74], .done), ([1, 2, 6, 12, 14, 15, 63, 64, 65, 73, 74, 75], .done), ([1, 2, 6, 12, 14, 15, 16, 63, 64, 65, 73, 74], .done), ([1, 2, 6, 12, 14, 15, 16, 63, 64, 65, 73, 74, 83], .done), ([1, 2, 6, 12, 14, 15, 63, 64, 65, 73, 74], .done), ([1, 2, 6, 12, 14, 15, 63, 64, 65, 73, 74], .done), ([1, 2, 6, 12, 63, 64, 65], .done), ([1, 2, 6, 12, 63, 64, 65], .done), ([6, 7], .done)]

noncomputable def x_r19_Subst : Cx := ⟨Tryd.prog, 42, Tryd.f42, 99, [300017, 300027, 300060, 300063, 300070, 300082, 300089, 300090, 300092, 300095], [], [.c 6 (some 2), .t 7]⟩
theorem g_r19_Subst : Good x_r19_Subst := ⟨Tryd.func42, by kernel_rfl⟩
theorem rs_r19_Subst : x_r19_Subst.rs = [.c 6 (some 2), .t 7] := rfl
theorem k_r19_Subst : compC Tryd.prog 99 [300017, 300027, 300060, 300063, 300070, 300082, 300089, 300090, 300092, 300095] [] (Tryd.f42.body.getD .skip) t_r19_Subst = some (c_r19_Subst, []) := by kernel_rfl
theorem b_r19_Subst : Tryd.f42.body = some (Tryd.f42.body.getD .skip) := by kernel_rfl
theorem i_r19_Subst {args : List AV} {σ : Heap} {K : AV → Heap → Prop} (hl : args.length ≤ 99) (h : Run x_r19_Subst K [.code c_r19_Subst] (argF args) E σ) : ACalls Tryd.prog 42 args σ K :=
  acalls_of (cx := x_r19_Subst) g_r19_Subst b_r19_Subst Tryd.ntmps42 hl (compC_rc x_r19_Subst _ _ _ _ k_r19_Subst) h

/-! ### amortcost/linear.small -/
def c_linear_small : C := (.seq (.reg [⟨some 2, .mv (.c (.d (.bool false))), none⟩] [0])
   (.seq (.reg [⟨some 3, .mv (.t 0), none⟩,
        ⟨some 4, .bin .leq (.c (.d (.int .i64 (-1048576)))) (.t 3), none⟩,
        ⟨some 5, .mv (.t 4), none⟩,
        ⟨some 6, .mv (.t 0), some (5, true)⟩,
        ⟨some 7, .bin .leq (.t 6) (.c (.d (.int .i64 1048576))), some (5, true)⟩,
        ⟨some 8, .pick (.t 5) (.t 7) (.c (.d (.bool false))), none⟩,
        ⟨some 2, .mv (.t 8), none⟩] [2])
    .ret))

def t_linear_small : List (List Nat × PT) := [([0], .done), ([2], .done)]

noncomputable def x_linear_small : Cx := ⟨Tryd.prog, 49, Tryd.f49, 9, [], [], [.t 2]⟩
theorem g_linear_small : Good x_linear_small := ⟨Tryd.func49, by kernel_rfl⟩
theorem rs_linear_small : x_linear_small.rs = [.t 2] := rfl
theorem k_linear_small : compC Tryd.prog 9 [] [] (Tryd.f49.body.getD .skip) t_linear_small = some (c_linear_small, []) := by kernel_rfl
theorem b_linear_small : Tryd.f49.body = some (Tryd.f49.body.getD .skip) := by kernel_rfl
theorem i_linear_small {args : List AV} {σ : Heap} {K : AV → Heap → Prop} (hl : args.length ≤ 9) (h : Run x_linear_small K [.code c_linear_small] (argF args) E σ) : ACalls Tryd.prog 49 args σ K :=
  acalls_of (cx := x_linear_small) g_linear_small b_linear_small Tryd.ntmps49 hl (compC_rc x_linear_small _ _ _ _ k_linear_small) h

/-! ### amortcost/linear.variable -/
def c_linear_variable : C := (.seq (.reg [⟨some 2, .mv (.c (.d (.bool false))), none⟩] [0])
   (.seq (.reg [⟨some 3, .mv (.t 0), none⟩,
        ⟨some 4, .bin .geq (.t 3) (.c (.d (.int .i64 (-1)))), none⟩,
        ⟨some 5, .mv (.t 4), none⟩,
        ⟨some 6, .mv (.t 0), some (5, true)⟩,
        ⟨some 7, .bin .lss (.t 6) (.c (.d (.int .i64 3000))), some (5, true)⟩,
        ⟨some 8, .pick (.t 5) (.t 7) (.c (.d (.bool false))), none⟩,
        ⟨some 2, .mv (.t 8), none⟩] [2])
    .ret))

def t_linear_variable : List (List Nat × PT) := [([0], .done), ([2], .done)]

noncomputable def x_linear_variable : Cx := ⟨Tryd.prog, 50, Tryd.f50, 9, [], [], [.t 2]⟩
theorem g_linear_variable : Good x_linear_variable := ⟨Tryd.func50, by kernel_rfl⟩
theorem rs_linear_variable : x_linear_variable.rs = [.t 2] := rfl
theorem k_linear_variable : compC Tryd.prog 9 [] [] (Tryd.f50.body.getD .skip) t_linear_variable = some (c_linear_variable, []) := by kernel_rfl
theorem b_linear_variable : Tryd.f50.body = some (Tryd.f50.body.getD .skip) := by kernel_rfl
theorem i_linear_variable {args : List AV} {σ : Heap} {K : AV → Heap → Prop} (hl : args.length ≤ 9) (h : Run x_linear_variable K [.code c_linear_variable] (argF args) E σ) : ACalls Tryd.prog 50 args σ K :=
  acalls_of (cx := x_linear_variable) g_linear_variable b_linear_variable Tryd.ntmps50 hl (compC_rc x_linear_variable _ _ _ _ k_linear_variable) h

/-! ### amortcost/linear.sign -/
def c_linear_sign : C := (.seq (.reg [⟨some 6, .mv (.c (.d (.int .i64 0))), none⟩] [0, 1, 2])
   (.seq (.block 0 (.seq (.reg [⟨some 8, .mv (.t 2), none⟩,
          ⟨some 9, .mv (.t 8), none⟩,
          ⟨some 10, .mv (.t 1), some (9, true)⟩,
          ⟨some 11, .bin .lss (.t 10) (.c (.d (.int .i64 0))), some (9, true)⟩,
          ⟨some 12, .pick (.t 9) (.t 11) (.c (.d (.bool false))), none⟩,
          ⟨some 7, .mv (.t 12), none⟩] [0, 1, 2, 7])
      (.cond (.t 7) (.reg [⟨some 13, .mv (.t 0), none⟩,
           ⟨some 14, .call 52 [(.t 13), (.c (.d (.str [45])))], none⟩] [1])
       (.seq (.reg [⟨some 16, .mv (.t 1), none⟩,
            ⟨some 17, .bin .lss (.t 16) (.c (.d (.int .i64 0))), none⟩,
            ⟨some 15, .mv (.t 17), none⟩] [0, 1, 2, 15])
        (.cond (.t 15) (.reg [⟨some 18, .mv (.t 0), none⟩,
             ⟨some 19, .call 52 [(.t 18), (.c (.d (.str [32, 45, 32])))], none⟩] [1])
         (.seq (.reg [⟨some 21, .mv (.t 2), none⟩,
              ⟨some 22, .un .not (.t 21), none⟩,
              ⟨some 20, .mv (.t 22), none⟩] [0, 1, 20])
          (.cond (.t 20) (.reg [⟨some 23, .mv (.t 0), none⟩,
               ⟨some 24, .call 52 [(.t 23), (.c (.d (.str [32, 43, 32])))], none⟩] [1])
           .skip)))))))
    (.seq (.reg [⟨some 25, .mv (.t 1), none⟩,
         ⟨some 26, .mv (.t 1), none⟩,
         ⟨some 27, .un .neg (.t 26), none⟩,
         ⟨some 28, .mm true (.t 25) (.t 27), none⟩,
         ⟨some 6, .mv (.t 28), none⟩] [6])
     .ret)))

def t_linear_sign : List (List Nat × PT) := [([0, 1, 2], .done), ([0, 1, 2, 7], .done), ([1], .done), ([0, 1, 2, 15], .done), ([1], .done), ([0, 1, 20], .done), ([1], .done), ([6], .done)]

noncomputable def x_linear_sign : Cx := ⟨Tryd.prog, 51, Tryd.f51, 29, [], [], [.t 6]⟩
theorem g_linear_sign : Good x_linear_sign := ⟨Tryd.func51, by kernel_rfl⟩
theorem rs_linear_sign : x_linear_sign.rs = [.t 6] := rfl
theorem k_linear_sign : compC Tryd.prog 29 [] [] (Tryd.f51.body.getD .skip) t_linear_sign = some (c_linear_sign, []) := by kernel_rfl
theorem b_linear_sign : Tryd.f51.body = some (Tryd.f51.body.getD .skip) := by kernel_rfl
theorem i_linear_sign {args : List AV} {σ : Heap} {K : AV → Heap → Prop} (hl : args.length ≤ 29) (h : Run x_linear_sign K [.code c_linear_sign] (argF args) E σ) : ACalls Tryd.prog 51 args σ K :=
  acalls_of (cx := x_linear_sign) g_linear_sign b_linear_sign Tryd.ntmps51 hl (compC_rc x_linear_sign _ _ _ _ k_linear_sign) h

/-! ### (*strings.Builder).WriteString -/
def c_strings_Builder_WriteString : C := (.seq (.reg [⟨some 4, .mv (.c (.d (.int .i64 0))), none⟩,
       ⟨some 5, .mv (.c .undef), none⟩] [0, 1])
   (.seq (.reg [⟨some 6, .mv (.t 0), none⟩,
        ⟨some 7, .call 82 [(.t 6)], none⟩] [0, 1])
    (.seq (.reg [⟨some 8, .mv (.t 0), none⟩,
         ⟨some 9, .mv (.t 0), none⟩,
         ⟨some 10, .nck (.t 9), none⟩,
         ⟨some 11, .fld (.t 10) 1, none⟩,
         ⟨some 12, .ld (.t 11) none, none⟩,
         ⟨some 13, .mv (.t 1), none⟩,
         ⟨some 14, .ex (.apps 5) [(.t 12), (.t 13)], none⟩,
         ⟨some 15, .nck (.t 8), none⟩,
         ⟨some 16, .fld (.t 15) 1, none⟩,
         ⟨none, .st (.t 16) (.t 14) 1, none⟩] [1])
     (.seq (.reg [⟨some 17, .mv (.t 1), none⟩,
          ⟨some 18, .slen (.t 17), none⟩,
          ⟨some 4, .mv (.t 18), none⟩,
          ⟨some 5, .mv (.c .undef), none⟩] [4, 5])
      .ret))))

def t_strings_Builder_WriteString : List (List Nat × PT) := [([0, 1], .done), ([0, 1], .done), ([1], .done), ([4, 5], .done)]

noncomputable def x_strings_Builder_WriteString : Cx := ⟨Tryd.prog, 52, Tryd.f52, 19, [], [], [.t 4, .t 5]⟩
theorem g_strings_Builder_WriteString : Good x_strings_Builder_WriteString := ⟨Tryd.func52, by kernel_rfl⟩
theorem rs_strings_Builder_WriteString : x_strings_Builder_WriteString.rs = [.t 4, .t 5] := rfl
theorem k_strings_Builder_WriteString : compC Tryd.prog 19 [] [] (Tryd.f52.body.getD .skip) t_strings_Builder_WriteString = some (c_strings_Builder_WriteString, []) := by kernel_rfl
theorem b_strings_Builder_WriteString : Tryd.f52.body = some (Tryd.f52.body.getD .skip) := by kernel_rfl
theorem i_strings_Builder_WriteString {args : List AV} {σ : Heap} {K : AV → Heap → Prop} (hl : args.length ≤ 19) (h : Run x_strings_Builder_WriteString K [.code c_strings_Builder_WriteString] (argF args) E σ) : ACalls Tryd.prog 52 args σ K :=
  acalls_of (cx := x_strings_Builder_WriteString) g_strings_Builder_WriteString b_strings_Builder_WriteString Tryd.ntmps52 hl (compC_rc x_strings_Builder_WriteString _ _ _ _ k_strings_Builder_WriteString) h

/-! ### (*strings.Builder).String -/
def c_strings_Builder_String : C := (.seq (.reg [⟨some 2, .mv (.c (.d (.str []))), none⟩] [0])
   (.seq (.reg [⟨some 3, .mv (.t 0), none⟩,
        ⟨some 4, .nck (.t 3), none⟩,
        ⟨some 5, .fld (.t 4) 1, none⟩,
        ⟨some 6, .ld (.t 5) none, none⟩,
        ⟨some 7, .ex .usd [(.t 6)], none⟩,
        ⟨some 8, .mv (.t 0), none⟩,
        ⟨some 9, .nck (.t 8), none⟩,
        ⟨some 10, .fld (.t 9) 1, none⟩,
        ⟨some 11, .ld (.t 10) none, none⟩,
        ⟨some 12, .len (.t 11), none⟩,
        ⟨some 13, .ex (.ustr 5) [(.t 7), (.t 12)], none⟩,
        ⟨some 2, .mv (.t 13), none⟩] [2])
    .ret))

def t_strings_Builder_String : List (List Nat × PT) := [([0], .done), ([2], .done)]

noncomputable def x_strings_Builder_String : Cx := ⟨Tryd.prog, 55, Tryd.f55, 14, [], [], [.t 2]⟩
theorem g_strings_Builder_String : Good x_strings_Builder_String := ⟨Tryd.func55, by kernel_rfl⟩
theorem rs_strings_Builder_String : x_strings_Builder_String.rs = [.t 2] := rfl
theorem k_strings_Builder_String : compC Tryd.prog 14 [] [] (Tryd.f55.body.getD .skip) t_strings_Builder_String = some (c_strings_Builder_String, []) := by kernel_rfl
theorem b_strings_Builder_String : Tryd.f55.body = some (Tryd.f55.body.getD .skip) := by kernel_rfl
theorem i_strings_Builder_String {args : List AV} {σ : Heap} {K : AV → Heap → Prop} (hl : args.length ≤ 14) (h : Run x_strings_Builder_String K [.code c_strings_Builder_String] (argF args) E σ) : ACalls Tryd.prog 55 args σ K :=
  acalls_of (cx := x_strings_Builder_String) g_strings_Builder_String b_strings_Builder_String Tryd.ntmps55 hl (compC_rc x_strings_Builder_String _ _ _ _ k_strings_Builder_String) h

/-! ### amortcost/amortcostref19.number -/
/- slots of c_r19_number_L0 : [0, 3] -/
def c_r19_number_L0 : C := (.seq (.seq (.reg [⟨some 12, .mv (.t 0), none⟩,
        ⟨some 13, .bin .gtr (.t 12) (.c (.d (.int .i64 0))), none⟩] [0, 3, 13])
    (.cond (.t 13) .skip
     (.exit 0)))
   (.seq (.block 1 (.reg [⟨some 16, .mv (.t 0), none⟩,
         ⟨some 17, .bin .rem (.t 16) (.c (.d (.int .i64 10))), none⟩,
         ⟨some 18, .bin .add (.c (.d (.int .i64 48))) (.t 17), none⟩,
         ⟨some 19, .conv .u8 (.t 18), none⟩,
         ⟨some 20, .bsl 1 1 [(.d (.int .u8 0))] [(0, 1, (.t 19))], none⟩,
         ⟨some 21, .ex .b2s [(.t 20)], none⟩,
         ⟨some 22, .mv (.t 3), none⟩,
         ⟨some 23, .bin .add (.t 21) (.t 22), none⟩,
         ⟨some 3, .mv (.t 23), none⟩] [0, 3]))
    (.reg [⟨some 14, .mv (.t 0), none⟩,
        ⟨some 15, .bin .quo (.t 14) (.c (.d (.int .i64 10))), none⟩,
        ⟨some 0, .mv (.t 15), none⟩] [0, 3])))

def c_r19_number : C := (.seq (.reg [⟨some 2, .mv (.c (.d (.str []))), none⟩] [0])
   (.seq (.reg [⟨some 4, .mv (.t 0), none⟩,
        ⟨some 5, .bin .rem (.t 4) (.c (.d (.int .i64 10))), none⟩,
        ⟨some 6, .bin .add (.c (.d (.int .i64 48))) (.t 5), none⟩,
        ⟨some 7, .conv .u8 (.t 6), none⟩,
        ⟨some 8, .bsl 1 1 [(.d (.int .u8 0))] [(0, 1, (.t 7))], none⟩,
        ⟨some 9, .ex .b2s [(.t 8)], none⟩,
        ⟨some 3, .mv (.t 9), none⟩] [0, 3])
    (.seq (.seq (.reg [⟨some 10, .mv (.t 0), none⟩,
          ⟨some 11, .bin .quo (.t 10) (.c (.d (.int .i64 10))), none⟩,
          ⟨some 0, .mv (.t 11), none⟩] [0, 3])
      (.block 0 (.loop c_r19_number_L0)))
     (.seq (.reg [⟨some 24, .mv (.t 3), none⟩,
          ⟨some 2, .mv (.t 24), none⟩] [2])
      .ret))))

def t_r19_number : List (List Nat × PT) := [([0], .done), ([0, 3], .done), ([0, 3], .done), ([0, 3, 13], .done), ([0, 3], .done), ([0, 3], .done), ([2], .done)]

noncomputable def x_r19_number : Cx := ⟨Tryd.prog, 56, Tryd.f56, 25, [], [], [.t 2]⟩
theorem g_r19_number : Good x_r19_number := ⟨Tryd.func56, by kernel_rfl⟩
theorem rs_r19_number : x_r19_number.rs = [.t 2] := rfl
theorem k_r19_number : compC Tryd.prog 25 [] [] (Tryd.f56.body.getD .skip) t_r19_number = some (c_r19_number, []) := by kernel_rfl
theorem b_r19_number : Tryd.f56.body = some (Tryd.f56.body.getD .skip) := by kernel_rfl
theorem i_r19_number {args : List AV} {σ : Heap} {K : AV → Heap → Prop} (hl : args.length ≤ 25) (h : Run x_r19_number K [.code c_r19_number] (argF args) E σ) : ACalls Tryd.prog 56 args σ K :=
  acalls_of (cx := x_r19_number) g_r19_number b_r19_number Tryd.ntmps56 hl (compC_rc x_r19_number _ _ _ _ k_r19_number) h

/-! ### amortcost/linear.collect -/
/- slots of c_linear_collect_L0 : [4, 6, 7, 8, 9] -/
def c_linear_collect_L0 : C := (.seq (.seq (.reg [⟨some 26, .mv (.t 8), none⟩,
        ⟨some 27, .mv (.t 7), none⟩,
        ⟨some 28, .len (.t 27), none⟩,
        ⟨some 29, .bin .lss (.t 26) (.t 28), none⟩,
        ⟨some 30, .mv (.t 29), none⟩,
        ⟨some 31, .mv (.t 7), some (30, true)⟩,
        ⟨some 32, .mv (.t 8), some (30, true)⟩,
        ⟨some 33, .ix (.t 31) (.t 32) 2, some (30, true)⟩,
        ⟨some 34, .fld (.t 33) 0, some (30, true)⟩,
        ⟨some 35, .ld (.t 34) none, some (30, true)⟩,
        ⟨some 36, .fld (.t 9) 0, some (30, true)⟩,
        ⟨some 37, .ldl (.t 36) none, some (30, true)⟩,
        ⟨some 38, .bin .eql (.t 35) (.t 37), some (30, true)⟩,
        ⟨some 39, .pick (.t 30) (.t 38) (.c (.d (.bool false))), none⟩] [4, 6, 7, 8, 9, 39])
    (.cond (.t 39) .skip
     (.exit 2)))
   (.seq (.block 3 (.reg [⟨some 42, .fld (.t 9) 1, none⟩,
         ⟨some 43, .ldl (.t 42) none, none⟩,
         ⟨some 44, .mv (.t 7), none⟩,
         ⟨some 45, .mv (.t 8), none⟩,
         ⟨some 46, .ix (.t 44) (.t 45) 2, none⟩,
         ⟨some 47, .fld (.t 46) 1, none⟩,
         ⟨some 48, .ld (.t 47) none, none⟩,
         ⟨some 49, .bin .add (.t 43) (.t 48), none⟩,
         ⟨some 50, .fld (.t 9) 1, none⟩,
         ⟨none, .st (.t 50) (.t 49) 1, none⟩] [4, 6, 7, 8, 9]))
    (.reg [⟨some 40, .mv (.t 8), none⟩,
        ⟨some 41, .bin .add (.t 40) (.c (.d (.int .i64 1))), none⟩,
        ⟨some 8, .mv (.t 41), none⟩] [4, 6, 7, 8, 9])))

/- slots of c_linear_collect_L1 : [4, 6, 7, 8] -/
def c_linear_collect_L1 : C := (.seq (.seq (.reg [⟨some 16, .mv (.t 8), none⟩,
        ⟨some 17, .mv (.t 7), none⟩,
        ⟨some 18, .len (.t 17), none⟩,
        ⟨some 19, .bin .lss (.t 16) (.t 18), none⟩] [4, 6, 7, 8, 19])
    (.cond (.t 19) .skip
     (.exit 0)))
   (.block 1 (.seq (.reg [⟨some 20, .mv (.t 7), none⟩,
         ⟨some 21, .mv (.t 8), none⟩,
         ⟨some 22, .ix (.t 20) (.t 21) 2, none⟩,
         ⟨some 23, .fld (.t 22) 0, none⟩,
         ⟨some 24, .ld (.t 23) none, none⟩,
         ⟨some 25, .bld [(.d (.int .i64 0)), (.d (.int .i64 0))] [(0, 1, (.t 24))], none⟩,
         ⟨some 9, .al [(.d (.int .i64 0)), (.d (.int .i64 0))] false, none⟩,
         ⟨none, .st (.t 9) (.t 25) 2, none⟩] [4, 6, 7, 8, 9])
     (.seq (.block 2 (.loop c_linear_collect_L0))
      (.seq (.reg [⟨some 51, .fld (.t 9) 1, none⟩,
           ⟨some 52, .ldl (.t 51) none, none⟩,
           ⟨some 53, .bin .neq (.t 52) (.c (.d (.int .i64 0))), none⟩] [4, 6, 7, 8, 9, 53])
       (.cond (.t 53) (.reg [⟨some 54, .fld (.t 6) 1, none⟩,
            ⟨some 55, .ldl (.t 54) none, none⟩,
            ⟨some 56, .ldl (.t 9) (some 2), none⟩,
            ⟨some 57, .bsl 2 1 [(.d (.int .i64 0)), (.d (.int .i64 0))] [(0, 2, (.t 56))], none⟩,
            ⟨some 58, .app 49 2 16 (.t 55) (.t 57), none⟩,
            ⟨some 59, .fld (.t 6) 1, none⟩,
            ⟨none, .st (.t 59) (.t 58) 1, none⟩] [4, 6, 7, 8])
        .skip))))))

def c_linear_collect : C := (.seq (.reg [⟨some 4, .al [(.d (.int .i64 0)), .nils] false, none⟩,
       ⟨some 5, .mv (.c (.d (.int .i64 0))), none⟩] [0, 1, 4])
   (.seq (.reg [⟨some 10, .mv (.t 0), none⟩,
        ⟨some 11, .bld [(.d (.int .i64 0)), .nils] [(0, 1, (.t 10))], none⟩,
        ⟨some 6, .al [(.d (.int .i64 0)), .nils] false, none⟩,
        ⟨none, .st (.t 6) (.t 11) 2, none⟩] [1, 4, 6])
    (.seq (.reg [⟨some 12, .mv (.t 1), none⟩,
         ⟨some 13, .call 85 [(.t 12)], none⟩,
         ⟨some 7, .mv (.t 13), none⟩] [4, 6, 7])
     (.seq (.reg [⟨some 14, .mv (.t 7), none⟩,
          ⟨some 15, .call 86 [(.t 14), (.c (.fn 87 [] []))], none⟩] [4, 6, 7])
      (.seq (.seq (.reg [⟨some 8, .mv (.c (.d (.int .i64 0))), none⟩] [4, 6, 7, 8])
        (.block 0 (.loop c_linear_collect_L1)))
       (.seq (.seq (.reg [⟨some 60, .ldl (.t 6) (some 2), none⟩,
             ⟨some 61, .call 35 [(.t 60)], none⟩,
             ⟨some 62, .un .not (.t 61), none⟩] [4, 6, 62])
         (.cond (.t 62) (.seq (.reg [⟨some 63, .bld [(.d (.int .i64 0)), .nils] [], none⟩,
               ⟨none, .st (.t 4) (.t 63) 2, none⟩,
               ⟨some 5, .mv (.c (.d (.int .i64 9))), none⟩] [4, 5])
           .ret)
          .skip))
        (.seq (.reg [⟨some 64, .ldl (.t 6) (some 2), none⟩,
             ⟨none, .st (.t 4) (.t 64) 2, none⟩,
             ⟨some 5, .mv (.c (.d (.int .i64 0))), none⟩] [4, 5])
         .ret)))))))

def t_linear_collect : List (List Nat × PT) := [([0, 1, 4], .done), ([1, 4, 6], .done), ([4, 6, 7], .done), ([4, 6, 7], .done), ([4, 6, 7, 8], .done), ([4, 6, 7, 8, 19], .done), ([4, 6, 7, 8, 9], .done), ([4, 6, 7, 8, 9, 39], .done), ([4, 6, 7, 8, 9], .done), ([4, 6, 7, 8, 9], .done), ([4, 6, 7, 8, 9, 53], .done), ([4, 6, 7, 8], .done), ([4, 6, 62], .done), ([4, 5], .done), ([4, 5], .done)]

noncomputable def x_linear_collect : Cx := ⟨Tryd.prog, 57, Tryd.f57, 65, [300037, 300043, 300052, 300055, 300056, 300060, 300064], [], [.c 4 (some 2), .t 5]⟩
theorem g_linear_collect : Good x_linear_collect := ⟨Tryd.func57, by kernel_rfl⟩
theorem rs_linear_collect : x_linear_collect.rs = [.c 4 (some 2), .t 5] := rfl
theorem k_linear_collect : compC Tryd.prog 65 [300037, 300043, 300052, 300055, 300056, 300060, 300064] [] (Tryd.f57.body.getD .skip) t_linear_collect = some (c_linear_collect, []) := by kernel_rfl
theorem b_linear_collect : Tryd.f57.body = some (Tryd.f57.body.getD .skip) := by kernel_rfl
theorem i_linear_collect {args : List AV} {σ : Heap} {K : AV → Heap → Prop} (hl : args.length ≤ 65) (h : Run x_linear_collect K [.code c_linear_collect] (argF args) E σ) : ACalls Tryd.prog 57 args σ K :=
  acalls_of (cx := x_linear_collect) g_linear_collect b_linear_collect Tryd.ntmps57 hl (compC_rc x_linear_collect _ _ _ _ k_linear_collect) h

/-! ### slices.Concat(()amortcost/api.LinTerm,amortcost/api.LinTerm) -/
/- slots of c_slices_Concat_api_LinTerm_L0 : [0, 3, 9, 10, 11] -/
def c_slices_Concat_api_LinTerm_L0 : C := (.seq (.reg [⟨some 12, .bin .lss (.t 11) (.t 10), none⟩] [0, 3, 9, 10, 11, 12])
   (.seq (.cond (.t 12) .skip
     (.exit 0))
    (.seq (.block 1 (.seq (.reg [⟨some 13, .ix (.t 9) (.t 11) 1, none⟩,
           ⟨some 14, .ld (.t 13) none, none⟩,
           ⟨some 5, .mv (.t 14), none⟩] [0, 3, 5, 9, 10, 11])
       (.seq (.reg [⟨some 15, .mv (.t 3), none⟩,
            ⟨some 16, .mv (.t 5), none⟩,
            ⟨some 17, .len (.t 16), none⟩,
            ⟨some 18, .bin .add (.t 15) (.t 17), none⟩,
            ⟨some 3, .mv (.t 18), none⟩] [0, 3, 9, 10, 11])
        (.seq (.reg [⟨some 19, .mv (.t 3), none⟩,
             ⟨some 20, .bin .lss (.t 19) (.c (.d (.int .i64 0))), none⟩] [0, 3, 9, 10, 11, 20])
         (.cond (.t 20) .bad
          .skip)))))
     (.reg [⟨some 22, .bin .add (.t 11) (.c (.d (.int .i64 1))), none⟩,
         ⟨some 11, .mv (.t 22), none⟩] [0, 3, 9, 10, 11]))))

/- slots of c_slices_Concat_api_LinTerm_L1 : [6, 25, 26, 27] -/
def c_slices_Concat_api_LinTerm_L1 : C := (.seq (.reg [⟨some 28, .bin .lss (.t 27) (.t 26), none⟩] [6, 25, 26, 27, 28])
   (.seq (.cond (.t 28) .skip
     (.exit 2))
    (.seq (.block 3 (.seq (.reg [⟨some 29, .ix (.t 25) (.t 27) 1, none⟩,
           ⟨some 30, .ld (.t 29) none, none⟩,
           ⟨some 8, .mv (.t 30), none⟩] [6, 8, 25, 26, 27])
       (.reg [⟨some 31, .mv (.t 6), none⟩,
           ⟨some 32, .mv (.t 8), none⟩,
           ⟨some 33, .appm 49 2 16 (.t 31) (.t 32), none⟩,
           ⟨some 6, .mv (.t 33), none⟩] [6, 25, 26, 27])))
     (.reg [⟨some 34, .bin .add (.t 27) (.c (.d (.int .i64 1))), none⟩,
         ⟨some 27, .mv (.t 34), none⟩] [6, 25, 26, 27]))))

def c_slices_Concat_api_LinTerm : C := (.seq (.reg [⟨some 2, .mv (.c .nils), none⟩] [0])
   (.seq (.reg [⟨some 3, .mv (.c (.d (.int .i64 0))), none⟩] [0, 3])
    (.seq (.seq (.reg [⟨some 9, .mv (.t 0), none⟩,
          ⟨some 10, .len (.t 9), none⟩,
          ⟨some 11, .mv (.c (.d (.int .i64 0))), none⟩] [0, 3, 9, 10, 11])
      (.block 0 (.loop c_slices_Concat_api_LinTerm_L0)))
     (.seq (.reg [⟨some 23, .mv (.t 3), none⟩,
          ⟨some 24, .call 88 [(.c .nils), (.t 23)], none⟩,
          ⟨some 6, .mv (.t 24), none⟩] [0, 6])
      (.seq (.seq (.reg [⟨some 25, .mv (.t 0), none⟩,
            ⟨some 26, .len (.t 25), none⟩,
            ⟨some 27, .mv (.c (.d (.int .i64 0))), none⟩] [6, 25, 26, 27])
        (.block 2 (.loop c_slices_Concat_api_LinTerm_L1)))
       (.seq (.reg [⟨some 35, .mv (.t 6), none⟩,
            ⟨some 2, .mv (.t 35), none⟩] [2])
        .ret))))))

def t_slices_Concat_api_LinTerm : List (List Nat × PT) := [([0], .done), ([0, 3], .done), ([0, 3, 9, 10, 11], .done), ([0, 3, 9, 10, 11, 12], .done), ([0, 3, 5, 9, 10, 11], .done), ([0, 3, 9, 10, 11], .done), ([0, 3, 9, 10, 11, 20], .done), ([], .done), ([0, 3, 9, 10, 11], .done), ([0, 6], .done), ([6, 25, 26, 27], .done), ([6, 25, 26, 27, 28], .done), ([6, 8, 25, 26, 27], .done), ([6, 25, 26, 27], .done), ([6, 25, 26, 27], .done), ([2], .done)]

noncomputable def x_slices_Concat_api_LinTerm : Cx := ⟨Tryd.prog, 58, Tryd.f58, 36, [33], [], [.t 2]⟩
theorem g_slices_Concat_api_LinTerm : Good x_slices_Concat_api_LinTerm := ⟨Tryd.func58, by kernel_rfl⟩
theorem rs_slices_Concat_api_LinTerm : x_slices_Concat_api_LinTerm.rs = [.t 2] := rfl
theorem k_slices_Concat_api_LinTerm : compC Tryd.prog 36 [33] [] (Tryd.f58.body.getD .skip) t_slices_Concat_api_LinTerm = some (c_slices_Concat_api_LinTerm, []) := by kernel_rfl
theorem b_slices_Concat_api_LinTerm : Tryd.f58.body = some (Tryd.f58.body.getD .skip) := by kernel_rfl
theorem i_slices_Concat_api_LinTerm {args : List AV} {σ : Heap} {K : AV → Heap → Prop} (hl : args.length ≤ 36) (h : Run x_slices_Concat_api_LinTerm K [.code c_slices_Concat_api_LinTerm] (argF args) E σ) : ACalls Tryd.prog 58 args σ K :=
  acalls_of (cx := x_slices_Concat_api_LinTerm) g_slices_Concat_api_LinTerm b_slices_Concat_api_LinTerm Tryd.ntmps58 hl (compC_rc x_slices_Concat_api_LinTerm _ _ _ _ k_slices_Concat_api_LinTerm) h

/-! ### amortcost/amortcostref19.checked -/
def c_r19_checked : C := (.seq (.reg [⟨some 1, .box (.t 0) false, none⟩,
       ⟨some 2, .al [(.d (.int .i64 0)), .nils] false, none⟩,
       ⟨some 3, .mv (.c (.d (.int .i64 0))), none⟩] [1, 2])
   (.seq (.seq (.reg [⟨some 4, .ldl (.t 1) (some 2), none⟩,
         ⟨some 5, .call 26 [(.t 4)], none⟩,
         ⟨some 6, .un .not (.t 5), none⟩] [1, 2, 6])
     (.cond (.t 6) (.seq (.reg [⟨some 7, .bld [(.d (.int .i64 0)), .nils] [], none⟩,
           ⟨none, .st (.t 2) (.t 7) 2, none⟩,
           ⟨some 3, .mv (.c (.d (.int .i64 9))), none⟩] [2, 3])
       .ret)
      .skip))
    (.seq (.reg [⟨some 8, .ldl (.t 1) (some 2), none⟩,
         ⟨none, .st (.t 2) (.t 8) 2, none⟩,
         ⟨some 3, .mv (.c (.d (.int .i64 0))), none⟩] [2, 3])
     .ret)))

def t_r19_checked : List (List Nat × PT) := [([1, 2], .done), ([1, 2, 6], .done), ([2, 3], .done), ([2, 3], .done)]

noncomputable def x_r19_checked : Cx := ⟨Tryd.prog, 59, Tryd.f59, 9, [300004, 300008], [], [.c 2 (some 2), .t 3]⟩
theorem g_r19_checked : Good x_r19_checked := ⟨Tryd.func59, by kernel_rfl⟩
theorem rs_r19_checked : x_r19_checked.rs = [.c 2 (some 2), .t 3] := rfl
theorem k_r19_checked : compC Tryd.prog 9 [300004, 300008] [] (Tryd.f59.body.getD .skip) t_r19_checked = some (c_r19_checked, []) := by kernel_rfl
theorem b_r19_checked : Tryd.f59.body = some (Tryd.f59.body.getD .skip) := by kernel_rfl
theorem i_r19_checked {args : List AV} {σ : Heap} {K : AV → Heap → Prop} (hl : args.length ≤ 9) (h : Run x_r19_checked K [.code c_r19_checked] (argF args) E σ) : ACalls Tryd.prog 59 args σ K :=
  acalls_of (cx := x_r19_checked) g_r19_checked b_r19_checked Tryd.ntmps59 hl (compC_rc x_r19_checked _ _ _ _ k_r19_checked) h

/-! ### amortcost/amortcostref19.plus -/
/- slots of c_r19_plus_L0 : [2, 6, 7, 22, 23, 24] -/
def c_r19_plus_L0 : C := (.seq (.reg [⟨some 25, .bin .lss (.t 24) (.t 23), none⟩] [2, 6, 7, 22, 23, 24, 25])
   (.seq (.cond (.t 25) .skip
     (.exit 0))
    (.seq (.block 1 (.seq (.reg [⟨some 26, .ix (.t 22) (.t 24) 2, none⟩,
           ⟨some 27, .ld (.t 26) (some 2), none⟩,
           ⟨some 9, .al [(.d (.int .i64 0)), (.d (.int .i64 0))] false, none⟩,
           ⟨none, .st (.t 9) (.t 27) 2, none⟩] [2, 6, 7, 9, 22, 23, 24])
       (.reg [⟨some 28, .fld (.t 7) 1, none⟩,
           ⟨some 29, .ldl (.t 28) none, none⟩,
           ⟨some 30, .fld (.t 9) 0, none⟩,
           ⟨some 31, .ldl (.t 30) none, none⟩,
           ⟨some 32, .mv (.t 2), none⟩,
           ⟨some 33, .fld (.t 9) 1, none⟩,
           ⟨some 34, .ldl (.t 33) none, none⟩,
           ⟨some 35, .bin .mul (.t 32) (.t 34), none⟩,
           ⟨some 36, .call 63 [(.t 29), (.t 31), (.t 35)], none⟩,
           ⟨some 37, .fld (.t 7) 1, none⟩,
           ⟨none, .st (.t 37) (.t 36) 1, none⟩] [2, 6, 7, 22, 23, 24])))
     (.reg [⟨some 38, .bin .add (.t 24) (.c (.d (.int .i64 1))), none⟩,
         ⟨some 24, .mv (.t 38), none⟩] [2, 6, 7, 22, 23, 24]))))

def c_r19_plus : C := (.seq (.reg [⟨some 3, .box (.t 0) false, none⟩,
       ⟨some 4, .box (.t 1) false, none⟩,
       ⟨some 6, .al [(.d (.int .i64 0)), .nils] false, none⟩] [2, 3, 4, 6])
   (.seq (.reg [⟨some 7, .al [(.d (.int .i64 0)), .nils] false, none⟩,
        ⟨some 10, .fld (.t 3) 0, none⟩,
        ⟨some 11, .ldl (.t 10) none, none⟩,
        ⟨some 12, .mv (.t 2), none⟩,
        ⟨some 13, .fld (.t 4) 0, none⟩,
        ⟨some 14, .ldl (.t 13) none, none⟩,
        ⟨some 15, .bin .mul (.t 12) (.t 14), none⟩,
        ⟨some 16, .bin .add (.t 11) (.t 15), none⟩,
        ⟨some 17, .fld (.t 3) 1, none⟩,
        ⟨some 18, .ldl (.t 17) none, none⟩,
        ⟨some 19, .appm 49 2 16 (.c .nils) (.t 18), none⟩,
        ⟨some 20, .bld [(.d (.int .i64 0)), .nils] [(0, 1, (.t 16)), (1, 1, (.t 19))], none⟩,
        ⟨none, .st (.t 7) (.t 20) 2, none⟩] [2, 4, 6, 7])
    (.seq (.seq (.reg [⟨some 21, .fld (.t 4) 1, none⟩,
          ⟨some 22, .ldl (.t 21) none, none⟩,
          ⟨some 23, .len (.t 22), none⟩,
          ⟨some 24, .mv (.c (.d (.int .i64 0))), none⟩] [2, 6, 7, 22, 23, 24])
      (.block 0 (.loop c_r19_plus_L0)))
     (.seq (.reg [⟨some 39, .ldl (.t 7) (some 2), none⟩,
          ⟨none, .st (.t 6) (.t 39) 2, none⟩] [6])
      .ret))))

def t_r19_plus : List (List Nat × PT) := [([2, 3, 4, 6], .done), ([2, 4, 6, 7], (.lay 11 (.one 0 (.one 1 (.one 2 (.one 3 (.one 4 (.one 5 (.one 6 (.one 7 (.one 8 (.one 9 (.one 10 (.one 12 .done)))))))))))))), ([2, 6, 7, 22, 23, 24], .done), ([2, 6, 7, 22, 23, 24, 25], .done), ([2, 6, 7, 9, 22, 23, 24], .done), ([2, 6, 7, 22, 23, 24], .done), ([2, 6, 7, 22, 23, 24], .done), ([6], .done)]

noncomputable def x_r19_plus : Cx := ⟨Tryd.prog, 60, Tryd.f60, 40, [19, 300011, 300014, 300018, 300022, 300029, 300031, 300034, 300039], [], [.c 6 (some 2)]⟩
theorem g_r19_plus : Good x_r19_plus := ⟨Tryd.func60, by kernel_rfl⟩
theorem rs_r19_plus : x_r19_plus.rs = [.c 6 (some 2)] := rfl
theorem k_r19_plus : compC Tryd.prog 40 [19, 300011, 300014, 300018, 300022, 300029, 300031, 300034, 300039] [] (Tryd.f60.body.getD .skip) t_r19_plus = some (c_r19_plus, []) := by kernel_rfl
theorem b_r19_plus : Tryd.f60.body = some (Tryd.f60.body.getD .skip) := by kernel_rfl
theorem i_r19_plus {args : List AV} {σ : Heap} {K : AV → Heap → Prop} (hl : args.length ≤ 40) (h : Run x_r19_plus K [.code c_r19_plus] (argF args) E σ) : ACalls Tryd.prog 60 args σ K :=
  acalls_of (cx := x_r19_plus) g_r19_plus b_r19_plus Tryd.ntmps60 hl (compC_rc x_r19_plus _ _ _ _ k_r19_plus) h

/-! ### amortcost/linear.times -/
/- slots of c_linear_times_L0 : [1, 5, 10, 11] -/
def c_linear_times_L0 : C := (.seq (.reg [⟨some 12, .bin .lss (.t 11) (.t 10), none⟩] [1, 5, 10, 11, 12])
   (.seq (.cond (.t 12) .skip
     (.exit 0))
    (.seq (.block 1 (.seq (.reg [⟨some 13, .mv (.t 11), none⟩,
           ⟨some 6, .mv (.t 13), none⟩] [1, 5, 6, 10, 11])
       (.reg [⟨some 14, .mv (.t 5), none⟩,
           ⟨some 15, .mv (.t 6), none⟩,
           ⟨some 16, .ix (.t 14) (.t 15) 2, none⟩,
           ⟨some 17, .fld (.t 16) 1, none⟩,
           ⟨some 18, .ld (.t 17) none, none⟩,
           ⟨some 19, .mv (.t 1), none⟩,
           ⟨some 20, .bin .mul (.t 18) (.t 19), none⟩,
           ⟨some 21, .ix (.t 14) (.t 15) 2, none⟩,
           ⟨some 22, .fld (.t 21) 1, none⟩,
           ⟨none, .st (.t 22) (.t 20) 1, none⟩] [1, 5, 10, 11])))
     (.reg [⟨some 23, .bin .add (.t 11) (.c (.d (.int .i64 1))), none⟩,
         ⟨some 11, .mv (.t 23), none⟩] [1, 5, 10, 11]))))

def c_linear_times : C := (.seq (.reg [⟨some 4, .mv (.c .nils), none⟩] [0, 1])
   (.seq (.reg [⟨some 7, .mv (.t 0), none⟩,
        ⟨some 8, .call 85 [(.t 7)], none⟩,
        ⟨some 5, .mv (.t 8), none⟩] [1, 5])
    (.seq (.seq (.reg [⟨some 9, .mv (.t 5), none⟩,
          ⟨some 10, .len (.t 9), none⟩,
          ⟨some 11, .mv (.c (.d (.int .i64 0))), none⟩] [1, 5, 10, 11])
      (.block 0 (.loop c_linear_times_L0)))
     (.seq (.reg [⟨some 24, .mv (.t 5), none⟩,
          ⟨some 4, .mv (.t 24), none⟩] [4])
      .ret))))

def t_linear_times : List (List Nat × PT) := [([0, 1], .done), ([1, 5], .done), ([1, 5, 10, 11], .done), ([1, 5, 10, 11, 12], .done), ([1, 5, 6, 10, 11], .done), ([1, 5, 10, 11], .done), ([1, 5, 10, 11], .done), ([4], .done)]

noncomputable def x_linear_times : Cx := ⟨Tryd.prog, 61, Tryd.f61, 25, [], [], [.t 4]⟩
theorem g_linear_times : Good x_linear_times := ⟨Tryd.func61, by kernel_rfl⟩
theorem rs_linear_times : x_linear_times.rs = [.t 4] := rfl
theorem k_linear_times : compC Tryd.prog 25 [] [] (Tryd.f61.body.getD .skip) t_linear_times = some (c_linear_times, []) := by kernel_rfl
theorem b_linear_times : Tryd.f61.body = some (Tryd.f61.body.getD .skip) := by kernel_rfl
theorem i_linear_times {args : List AV} {σ : Heap} {K : AV → Heap → Prop} (hl : args.length ≤ 25) (h : Run x_linear_times K [.code c_linear_times] (argF args) E σ) : ACalls Tryd.prog 61 args σ K :=
  acalls_of (cx := x_linear_times) g_linear_times b_linear_times Tryd.ntmps61 hl (compC_rc x_linear_times _ _ _ _ k_linear_times) h

/-! ### amortcost/linear.large -/
def c_linear_large : C := (.seq (.reg [⟨some 2, .mv (.c (.d (.bool false))), none⟩] [0])
   (.seq (.reg [⟨some 3, .mv (.t 0), none⟩,
        ⟨some 4, .bin .lss (.t 3) (.c (.d (.int .i64 (-1099511627776)))), none⟩,
        ⟨some 5, .mv (.t 4), none⟩,
        ⟨some 6, .mv (.t 0), some (5, false)⟩,
        ⟨some 7, .bin .gtr (.t 6) (.c (.d (.int .i64 1099511627776))), some (5, false)⟩,
        ⟨some 8, .pick (.t 5) (.c (.d (.bool true))) (.t 7), none⟩,
        ⟨some 2, .mv (.t 8), none⟩] [2])
    .ret))

def t_linear_large : List (List Nat × PT) := [([0], .done), ([2], .done)]

noncomputable def x_linear_large : Cx := ⟨Tryd.prog, 62, Tryd.f62, 9, [], [], [.t 2]⟩
theorem g_linear_large : Good x_linear_large := ⟨Tryd.func62, by kernel_rfl⟩
theorem rs_linear_large : x_linear_large.rs = [.t 2] := rfl
theorem k_linear_large : compC Tryd.prog 9 [] [] (Tryd.f62.body.getD .skip) t_linear_large = some (c_linear_large, []) := by kernel_rfl
theorem b_linear_large : Tryd.f62.body = some (Tryd.f62.body.getD .skip) := by kernel_rfl
theorem i_linear_large {args : List AV} {σ : Heap} {K : AV → Heap → Prop} (hl : args.length ≤ 9) (h : Run x_linear_large K [.code c_linear_large] (argF args) E σ) : ACalls Tryd.prog 62 args σ K :=
  acalls_of (cx := x_linear_large) g_linear_large b_linear_large Tryd.ntmps62 hl (compC_rc x_linear_large _ _ _ _ k_linear_large) h

/-! ### amortcost/amortcostref19.sum -/
/- slots of c_r19_sum_L0 : [0, 1, 2, 7] -/
def c_r19_sum_L0 : C := (.seq (.seq (.reg [⟨some 8, .mv (.t 7), none⟩,
        ⟨some 9, .mv (.t 0), none⟩,
        ⟨some 10, .len (.t 9), none⟩,
        ⟨some 11, .bin .lss (.t 8) (.t 10), none⟩,
        ⟨some 12, .mv (.t 11), none⟩,
        ⟨some 13, .mv (.t 0), some (12, true)⟩,
        ⟨some 14, .mv (.t 7), some (12, true)⟩,
        ⟨some 15, .ix (.t 13) (.t 14) 2, some (12, true)⟩,
        ⟨some 16, .fld (.t 15) 0, some (12, true)⟩,
        ⟨some 17, .ld (.t 16) none, some (12, true)⟩,
        ⟨some 18, .mv (.t 1), some (12, true)⟩,
        ⟨some 19, .bin .lss (.t 17) (.t 18), some (12, true)⟩,
        ⟨some 20, .pick (.t 12) (.t 19) (.c (.d (.bool false))), none⟩] [0, 1, 2, 7, 20])
    (.cond (.t 20) .skip
     (.exit 0)))
   (.block 1 (.reg [⟨some 21, .mv (.t 7), none⟩,
        ⟨some 22, .bin .add (.t 21) (.c (.d (.int .i64 1))), none⟩,
        ⟨some 7, .mv (.t 22), none⟩] [0, 1, 2, 7])))

def c_r19_sum : C := (.seq (.reg [⟨some 6, .mv (.c .nils), none⟩] [0, 1, 2])
   (.seq (.reg [⟨some 7, .mv (.c (.d (.int .i64 0))), none⟩] [0, 1, 2, 7])
    (.seq (.block 0 (.loop c_r19_sum_L0))
     (.seq (.seq (.reg [⟨some 23, .mv (.t 7), none⟩,
           ⟨some 24, .mv (.t 0), none⟩,
           ⟨some 25, .len (.t 24), none⟩,
           ⟨some 26, .bin .lss (.t 23) (.t 25), none⟩,
           ⟨some 27, .mv (.t 26), none⟩,
           ⟨some 28, .mv (.t 0), some (27, true)⟩,
           ⟨some 29, .mv (.t 7), some (27, true)⟩,
           ⟨some 30, .ix (.t 28) (.t 29) 2, some (27, true)⟩,
           ⟨some 31, .fld (.t 30) 0, some (27, true)⟩,
           ⟨some 32, .ld (.t 31) none, some (27, true)⟩,
           ⟨some 33, .mv (.t 1), some (27, true)⟩,
           ⟨some 34, .bin .eql (.t 32) (.t 33), some (27, true)⟩,
           ⟨some 35, .pick (.t 27) (.t 34) (.c (.d (.bool false))), none⟩] [0, 1, 2, 7, 35])
       (.cond (.t 35) (.seq (.reg [⟨some 36, .mv (.t 0), none⟩,
             ⟨some 37, .mv (.t 7), none⟩,
             ⟨some 38, .ix (.t 36) (.t 37) 2, none⟩,
             ⟨some 39, .fld (.t 38) 1, none⟩,
             ⟨some 40, .ld (.t 39) none, none⟩,
             ⟨some 41, .mv (.t 2), none⟩,
             ⟨some 42, .bin .add (.t 40) (.t 41), none⟩,
             ⟨some 43, .ix (.t 36) (.t 37) 2, none⟩,
             ⟨some 44, .fld (.t 43) 1, none⟩,
             ⟨none, .st (.t 44) (.t 42) 1, none⟩] [0, 7])
         (.seq (.seq (.reg [⟨some 45, .mv (.t 0), none⟩,
               ⟨some 46, .mv (.t 7), none⟩,
               ⟨some 47, .ix (.t 45) (.t 46) 2, none⟩,
               ⟨some 48, .fld (.t 47) 1, none⟩,
               ⟨some 49, .ld (.t 48) none, none⟩,
               ⟨some 50, .bin .eql (.t 49) (.c (.d (.int .i64 0))), none⟩] [0, 7, 50])
           (.cond (.t 50) (.reg [⟨some 51, .mv (.t 0), none⟩,
                ⟨some 52, .mv (.t 7), none⟩,
                ⟨some 53, .sls (.t 51) none (some (.t 52)) none 2, none⟩,
                ⟨some 54, .mv (.t 0), none⟩,
                ⟨some 55, .mv (.t 7), none⟩,
                ⟨some 56, .bin .add (.t 55) (.c (.d (.int .i64 1))), none⟩,
                ⟨some 57, .sls (.t 54) (some (.t 56)) none none 2, none⟩,
                ⟨some 58, .ex (.appv 49 2) [(.t 53), (.t 57)], none⟩,
                ⟨some 0, .mv (.t 58), none⟩] [0])
            .skip))
          (.seq (.reg [⟨some 59, .mv (.t 0), none⟩,
               ⟨some 6, .mv (.t 59), none⟩] [6])
           .ret)))
        .skip))
      (.seq (.seq (.reg [⟨some 60, .mv (.t 2), none⟩,
            ⟨some 61, .bin .eql (.t 60) (.c (.d (.int .i64 0))), none⟩] [0, 1, 2, 7, 61])
        (.cond (.t 61) (.seq (.reg [⟨some 62, .mv (.t 0), none⟩,
              ⟨some 6, .mv (.t 62), none⟩] [6])
          .ret)
         .skip))
       (.seq (.reg [⟨some 63, .mv (.t 0), none⟩,
            ⟨some 64, .bld [(.d (.int .i64 0)), (.d (.int .i64 0))] [], none⟩,
            ⟨some 65, .bsl 2 1 [(.d (.int .i64 0)), (.d (.int .i64 0))] [(0, 2, (.t 64))], none⟩,
            ⟨some 66, .appm 49 2 16 (.t 63) (.t 65), none⟩,
            ⟨some 0, .mv (.t 66), none⟩] [0, 1, 2, 7])
        (.seq (.reg [⟨some 67, .mv (.t 0), none⟩,
             ⟨some 68, .mv (.t 7), none⟩,
             ⟨some 69, .bin .add (.t 68) (.c (.d (.int .i64 1))), none⟩,
             ⟨some 70, .sls (.t 67) (some (.t 69)) none none 2, none⟩,
             ⟨some 71, .mv (.t 0), none⟩,
             ⟨some 72, .mv (.t 7), none⟩,
             ⟨some 73, .sls (.t 71) (some (.t 72)) none none 2, none⟩,
             ⟨some 74, .ex (.cpy 2) [(.t 70), (.t 73)], none⟩] [0, 1, 2, 7])
         (.seq (.reg [⟨some 75, .mv (.t 0), none⟩,
              ⟨some 76, .mv (.t 7), none⟩,
              ⟨some 77, .mv (.t 1), none⟩,
              ⟨some 78, .mv (.t 2), none⟩,
              ⟨some 79, .bld [(.d (.int .i64 0)), (.d (.int .i64 0))] [(0, 1, (.t 77)), (1, 1, (.t 78))], none⟩,
              ⟨some 80, .ix (.t 75) (.t 76) 2, none⟩,
              ⟨none, .st (.t 80) (.t 79) 2, none⟩] [0])
          (.seq (.reg [⟨some 81, .mv (.t 0), none⟩,
               ⟨some 6, .mv (.t 81), none⟩] [6])
           .ret)))))))))

def t_r19_sum : List (List Nat × PT) := [([0, 1, 2], .done), ([0, 1, 2, 7], .done), ([0, 1, 2, 7, 20], .done), ([0, 1, 2, 7], .done), ([0, 1, 2, 7, 35], .done), ([0, 7], .done), ([0, 7, 50], .done), ([0], .done), ([6], .done), ([0, 1, 2, 7, 61], .done), ([6], .done), ([0, 1, 2, 7], .done), ([0, 1, 2, 7], .done), ([0], .done), ([6], .done)]

noncomputable def x_r19_sum : Cx := ⟨Tryd.prog, 63, Tryd.f63, 82, [66, 100058], [], [.t 6]⟩
theorem g_r19_sum : Good x_r19_sum := ⟨Tryd.func63, by kernel_rfl⟩
theorem rs_r19_sum : x_r19_sum.rs = [.t 6] := rfl
theorem k_r19_sum : compC Tryd.prog 82 [66, 100058] [] (Tryd.f63.body.getD .skip) t_r19_sum = some (c_r19_sum, []) := by kernel_rfl
theorem b_r19_sum : Tryd.f63.body = some (Tryd.f63.body.getD .skip) := by kernel_rfl
theorem i_r19_sum {args : List AV} {σ : Heap} {K : AV → Heap → Prop} (hl : args.length ≤ 82) (h : Run x_r19_sum K [.code c_r19_sum] (argF args) E σ) : ACalls Tryd.prog 63 args σ K :=
  acalls_of (cx := x_r19_sum) g_r19_sum b_r19_sum Tryd.ntmps63 hl (compC_rc x_r19_sum _ _ _ _ k_r19_sum) h

/-! ### cmp.Compare(int) -/
def c_cmp_Compare_int : C := (.seq (.reg [⟨some 4, .mv (.c (.d (.int .i64 0))), none⟩] [0, 1])
   (.seq (.reg [⟨some 7, .mv (.t 0), none⟩,
        ⟨some 8, .call 89 [(.t 7)], none⟩,
        ⟨some 5, .mv (.t 8), none⟩] [0, 1, 5])
    (.seq (.reg [⟨some 9, .mv (.t 1), none⟩,
         ⟨some 10, .call 89 [(.t 9)], none⟩,
         ⟨some 6, .mv (.t 10), none⟩] [0, 1, 5, 6])
     (.seq (.seq (.reg [⟨some 11, .mv (.t 5), none⟩] [0, 1, 6, 11])
       (.cond (.t 11) (.seq (.seq (.reg [⟨some 12, .mv (.t 6), none⟩] [12])
          (.cond (.t 12) (.seq (.reg [⟨some 4, .mv (.c (.d (.int .i64 0))), none⟩] [4])
            .ret)
           .skip))
         (.seq (.reg [⟨some 4, .mv (.c (.d (.int .i64 (-1)))), none⟩] [4])
          .ret))
        .skip))
      (.seq (.seq (.reg [⟨some 13, .mv (.t 6), none⟩] [0, 1, 13])
        (.cond (.t 13) (.seq (.reg [⟨some 4, .mv (.c (.d (.int .i64 1))), none⟩] [4])
          .ret)
         .skip))
       (.seq (.seq (.reg [⟨some 14, .mv (.t 0), none⟩,
             ⟨some 15, .mv (.t 1), none⟩,
             ⟨some 16, .bin .lss (.t 14) (.t 15), none⟩] [0, 1, 16])
         (.cond (.t 16) (.seq (.reg [⟨some 4, .mv (.c (.d (.int .i64 (-1)))), none⟩] [4])
           .ret)
          .skip))
        (.seq (.seq (.reg [⟨some 17, .mv (.t 0), none⟩,
              ⟨some 18, .mv (.t 1), none⟩,
              ⟨some 19, .bin .gtr (.t 17) (.t 18), none⟩] [19])
          (.cond (.t 19) (.seq (.reg [⟨some 4, .mv (.c (.d (.int .i64 1))), none⟩] [4])
            .ret)
           .skip))
         (.seq (.reg [⟨some 4, .mv (.c (.d (.int .i64 0))), none⟩] [4])
          .ret))))))))

def t_cmp_Compare_int : List (List Nat × PT) := [([0, 1], .done), ([0, 1, 5], .done), ([0, 1, 5, 6], .done), ([0, 1, 6, 11], .done), ([12], .done), ([4], .done), ([4], .done), ([0, 1, 13], .done), ([4], .done), ([0, 1, 16], .done), ([4], .done), ([19], .done), ([4], .done), ([4], .done)]

noncomputable def x_cmp_Compare_int : Cx := ⟨Tryd.prog, 64, Tryd.f64, 20, [], [], [.t 4]⟩
theorem g_cmp_Compare_int : Good x_cmp_Compare_int := ⟨Tryd.func64, by kernel_rfl⟩
theorem rs_cmp_Compare_int : x_cmp_Compare_int.rs = [.t 4] := rfl
theorem k_cmp_Compare_int : compC Tryd.prog 20 [] [] (Tryd.f64.body.getD .skip) t_cmp_Compare_int = some (c_cmp_Compare_int, []) := by kernel_rfl
theorem b_cmp_Compare_int : Tryd.f64.body = some (Tryd.f64.body.getD .skip) := by kernel_rfl
theorem i_cmp_Compare_int {args : List AV} {σ : Heap} {K : AV → Heap → Prop} (hl : args.length ≤ 20) (h : Run x_cmp_Compare_int K [.code c_cmp_Compare_int] (argF args) E σ) : ACalls Tryd.prog 64 args σ K :=
  acalls_of (cx := x_cmp_Compare_int) g_cmp_Compare_int b_cmp_Compare_int Tryd.ntmps64 hl (compC_rc x_cmp_Compare_int _ _ _ _ k_cmp_Compare_int) h

/-! ### slices.CompareFunc(()amortcost/api.LinTerm,()amortcost/api.LinTerm,amortcost/api.LinTerm,amortcost/api.LinTerm) -/
/- slots of c_slices_CompareFunc_api_LinTerm_L0 : [0, 1, 2, 11, 12, 13] -/
def c_slices_CompareFunc_api_LinTerm_L0 : C := (.seq (.reg [⟨some 14, .bin .lss (.t 13) (.t 12), none⟩] [0, 1, 2, 11, 12, 13, 14])
   (.seq (.cond (.t 14) .skip
     (.exit 0))
    (.seq (.block 1 (.seq (.reg [⟨some 15, .mv (.t 13), none⟩,
           ⟨some 16, .ix (.t 11) (.t 13) 2, none⟩,
           ⟨some 17, .ld (.t 16) (some 2), none⟩,
           ⟨some 8, .al [(.d (.int .i64 0)), (.d (.int .i64 0))] false, none⟩,
           ⟨some 7, .mv (.t 15), none⟩,
           ⟨none, .st (.t 8) (.t 17) 2, none⟩] [0, 1, 2, 7, 8, 11, 12, 13])
       (.seq (.seq (.reg [⟨some 18, .mv (.t 7), none⟩,
             ⟨some 19, .mv (.t 1), none⟩,
             ⟨some 20, .len (.t 19), none⟩,
             ⟨some 21, .bin .geq (.t 18) (.t 20), none⟩] [0, 1, 2, 7, 8, 11, 12, 13, 21])
         (.cond (.t 21) (.seq (.reg [⟨some 6, .mv (.c (.d (.int .i64 1))), none⟩] [6])
           .ret)
          .skip))
        (.seq (.reg [⟨some 22, .mv (.t 1), none⟩,
             ⟨some 23, .mv (.t 7), none⟩,
             ⟨some 24, .ix (.t 22) (.t 23) 2, none⟩,
             ⟨some 25, .ld (.t 24) (some 2), none⟩,
             ⟨some 9, .al [(.d (.int .i64 0)), (.d (.int .i64 0))] false, none⟩,
             ⟨none, .st (.t 9) (.t 25) 2, none⟩] [0, 1, 2, 8, 9, 11, 12, 13])
         (.seq (.reg [⟨some 26, .mv (.t 2), none⟩,
              ⟨some 27, .ldl (.t 8) (some 2), none⟩,
              ⟨some 28, .ldl (.t 9) (some 2), none⟩,
              ⟨some 29, .callv (.t 26) [(.t 27), (.t 28)], none⟩,
              ⟨some 10, .mv (.t 29), none⟩] [0, 1, 2, 10, 11, 12, 13])
          (.seq (.reg [⟨some 30, .mv (.t 10), none⟩,
               ⟨some 31, .bin .neq (.t 30) (.c (.d (.int .i64 0))), none⟩] [0, 1, 2, 10, 11, 12, 13, 31])
           (.cond (.t 31) (.seq (.reg [⟨some 32, .mv (.t 10), none⟩,
                 ⟨some 6, .mv (.t 32), none⟩] [6])
             .ret)
            .skip)))))))
     (.reg [⟨some 33, .bin .add (.t 13) (.c (.d (.int .i64 1))), none⟩,
         ⟨some 13, .mv (.t 33), none⟩] [0, 1, 2, 11, 12, 13]))))

def c_slices_CompareFunc_api_LinTerm : C := (.seq (.reg [⟨some 6, .mv (.c (.d (.int .i64 0))), none⟩] [0, 1, 2])
   (.seq (.seq (.reg [⟨some 11, .mv (.t 0), none⟩,
         ⟨some 12, .len (.t 11), none⟩,
         ⟨some 13, .mv (.c (.d (.int .i64 0))), none⟩] [0, 1, 2, 11, 12, 13])
     (.block 0 (.loop c_slices_CompareFunc_api_LinTerm_L0)))
    (.seq (.seq (.reg [⟨some 34, .mv (.t 0), none⟩,
          ⟨some 35, .len (.t 34), none⟩,
          ⟨some 36, .mv (.t 1), none⟩,
          ⟨some 37, .len (.t 36), none⟩,
          ⟨some 38, .bin .lss (.t 35) (.t 37), none⟩] [38])
      (.cond (.t 38) (.seq (.reg [⟨some 6, .mv (.c (.d (.int .i64 (-1)))), none⟩] [6])
        .ret)
       .skip))
     (.seq (.reg [⟨some 6, .mv (.c (.d (.int .i64 0))), none⟩] [6])
      .ret))))

def t_slices_CompareFunc_api_LinTerm : List (List Nat × PT) := [([0, 1, 2], .done), ([0, 1, 2, 11, 12, 13], .done), ([0, 1, 2, 11, 12, 13, 14], .done), ([0, 1, 2, 7, 8, 11, 12, 13], .done), ([0, 1, 2, 7, 8, 11, 12, 13, 21], .done), ([6], .done), ([0, 1, 2, 8, 9, 11, 12, 13], .done), ([0, 1, 2, 10, 11, 12, 13], .done), ([0, 1, 2, 10, 11, 12, 13, 31], .done), ([6], .done), ([0, 1, 2, 11, 12, 13], .done), ([38], .done), ([6], .done), ([6], .done)]

noncomputable def x_slices_CompareFunc_api_LinTerm : Cx := ⟨Tryd.prog, 65, Tryd.f65, 39, [300027, 300028], [], [.t 6]⟩
theorem g_slices_CompareFunc_api_LinTerm : Good x_slices_CompareFunc_api_LinTerm := ⟨Tryd.func65, by kernel_rfl⟩
theorem rs_slices_CompareFunc_api_LinTerm : x_slices_CompareFunc_api_LinTerm.rs = [.t 6] := rfl
theorem k_slices_CompareFunc_api_LinTerm : compC Tryd.prog 39 [300027, 300028] [] (Tryd.f65.body.getD .skip) t_slices_CompareFunc_api_LinTerm = some (c_slices_CompareFunc_api_LinTerm, []) := by kernel_rfl
theorem b_slices_CompareFunc_api_LinTerm : Tryd.f65.body = some (Tryd.f65.body.getD .skip) := by kernel_rfl
theorem i_slices_CompareFunc_api_LinTerm {args : List AV} {σ : Heap} {K : AV → Heap → Prop} (hl : args.length ≤ 39) (h : Run x_slices_CompareFunc_api_LinTerm K [.code c_slices_CompareFunc_api_LinTerm] (argF args) E σ) : ACalls Tryd.prog 65 args σ K :=
  acalls_of (cx := x_slices_CompareFunc_api_LinTerm) g_slices_CompareFunc_api_LinTerm b_slices_CompareFunc_api_LinTerm Tryd.ntmps65 hl (compC_rc x_slices_CompareFunc_api_LinTerm _ _ _ _ k_slices_CompareFunc_api_LinTerm) h

/-! ### amortcost/linear.Compare$1 -/
def c_linear_Compare_1 : C := (.seq (.reg [⟨some 2, .box (.t 0) false, none⟩,
       ⟨some 3, .box (.t 1) false, none⟩,
       ⟨some 4, .mv (.c (.d (.int .i64 0))), none⟩] [2, 3])
   (.seq (.reg [⟨some 5, .fld (.t 2) 0, none⟩,
        ⟨some 6, .ldl (.t 5) none, none⟩,
        ⟨some 7, .fld (.t 3) 0, none⟩,
        ⟨some 8, .ldl (.t 7) none, none⟩,
        ⟨some 10, .fld (.t 2) 1, none⟩,
        ⟨some 11, .ldl (.t 10) none, none⟩,
        ⟨some 12, .fld (.t 3) 1, none⟩,
        ⟨some 13, .ldl (.t 12) none, none⟩,
        ⟨some 9, .call 64 [(.t 6), (.t 8)], none⟩,
        ⟨some 14, .call 68 [(.t 11), (.t 13)], none⟩,
        ⟨some 15, .bsl 1 2 [(.d (.int .i64 0)), (.d (.int .i64 0))] [(0, 1, (.t 9)), (1, 1, (.t 14))], none⟩,
        ⟨some 16, .call 67 [(.t 15)], none⟩,
        ⟨some 4, .mv (.t 16), none⟩] [4])
    .ret))

def t_linear_Compare_1 : List (List Nat × PT) := [([2, 3], .done), ([4], (.one 0 (.one 1 (.one 2 (.one 3 (.one 5 (.one 6 (.one 7 (.one 8 (.one 4 (.one 9 (.one 10 (.one 11 (.one 12 .done))))))))))))))]

noncomputable def x_linear_Compare_1 : Cx := ⟨Tryd.prog, 66, Tryd.f66, 17, [300006, 300008, 300011, 300013], [], [.t 4]⟩
theorem g_linear_Compare_1 : Good x_linear_Compare_1 := ⟨Tryd.func66, by kernel_rfl⟩
theorem rs_linear_Compare_1 : x_linear_Compare_1.rs = [.t 4] := rfl
theorem k_linear_Compare_1 : compC Tryd.prog 17 [300006, 300008, 300011, 300013] [] (Tryd.f66.body.getD .skip) t_linear_Compare_1 = some (c_linear_Compare_1, []) := by kernel_rfl
theorem b_linear_Compare_1 : Tryd.f66.body = some (Tryd.f66.body.getD .skip) := by kernel_rfl
theorem i_linear_Compare_1 {args : List AV} {σ : Heap} {K : AV → Heap → Prop} (hl : args.length ≤ 17) (h : Run x_linear_Compare_1 K [.code c_linear_Compare_1] (argF args) E σ) : ACalls Tryd.prog 66 args σ K :=
  acalls_of (cx := x_linear_Compare_1) g_linear_Compare_1 b_linear_Compare_1 Tryd.ntmps66 hl (compC_rc x_linear_Compare_1 _ _ _ _ k_linear_Compare_1) h

/-! ### cmp.Or(int) -/
/- slots of c_cmp_Or_int_L0 : [3, 6, 7, 8] -/
def c_cmp_Or_int_L0 : C := (.seq (.reg [⟨some 9, .bin .lss (.t 8) (.t 7), none⟩] [3, 6, 7, 8, 9])
   (.seq (.cond (.t 9) .skip
     (.exit 0))
    (.seq (.block 1 (.seq (.reg [⟨some 10, .ix (.t 6) (.t 8) 1, none⟩,
           ⟨some 11, .ld (.t 10) none, none⟩,
           ⟨some 5, .mv (.t 11), none⟩] [3, 5, 6, 7, 8])
       (.seq (.reg [⟨some 12, .mv (.t 5), none⟩,
            ⟨some 13, .mv (.t 3), none⟩,
            ⟨some 14, .bin .neq (.t 12) (.t 13), none⟩] [3, 5, 6, 7, 8, 14])
        (.cond (.t 14) (.seq (.reg [⟨some 15, .mv (.t 5), none⟩,
              ⟨some 2, .mv (.t 15), none⟩] [2])
          .ret)
         .skip))))
     (.reg [⟨some 16, .bin .add (.t 8) (.c (.d (.int .i64 1))), none⟩,
         ⟨some 8, .mv (.t 16), none⟩] [3, 6, 7, 8]))))

def c_cmp_Or_int : C := (.seq (.reg [⟨some 2, .mv (.c (.d (.int .i64 0))), none⟩] [0])
   (.seq (.reg [⟨some 3, .mv (.c (.d (.int .i64 0))), none⟩] [0, 3])
    (.seq (.seq (.reg [⟨some 6, .mv (.t 0), none⟩,
          ⟨some 7, .len (.t 6), none⟩,
          ⟨some 8, .mv (.c (.d (.int .i64 0))), none⟩] [3, 6, 7, 8])
      (.block 0 (.loop c_cmp_Or_int_L0)))
     (.seq (.reg [⟨some 17, .mv (.t 3), none⟩,
          ⟨some 2, .mv (.t 17), none⟩] [2])
      .ret))))

def t_cmp_Or_int : List (List Nat × PT) := [([0], .done), ([0, 3], .done), ([3, 6, 7, 8], .done), ([3, 6, 7, 8, 9], .done), ([3, 5, 6, 7, 8], .done), ([3, 5, 6, 7, 8, 14], .done), ([2], .done), ([3, 6, 7, 8], .done), ([2], .done)]

noncomputable def x_cmp_Or_int : Cx := ⟨Tryd.prog, 67, Tryd.f67, 18, [], [], [.t 2]⟩
theorem g_cmp_Or_int : Good x_cmp_Or_int := ⟨Tryd.func67, by kernel_rfl⟩
theorem rs_cmp_Or_int : x_cmp_Or_int.rs = [.t 2] := rfl
theorem k_cmp_Or_int : compC Tryd.prog 18 [] [] (Tryd.f67.body.getD .skip) t_cmp_Or_int = some (c_cmp_Or_int, []) := by kernel_rfl
theorem b_cmp_Or_int : Tryd.f67.body = some (Tryd.f67.body.getD .skip) := by kernel_rfl
theorem i_cmp_Or_int {args : List AV} {σ : Heap} {K : AV → Heap → Prop} (hl : args.length ≤ 18) (h : Run x_cmp_Or_int K [.code c_cmp_Or_int] (argF args) E σ) : ACalls Tryd.prog 67 args σ K :=
  acalls_of (cx := x_cmp_Or_int) g_cmp_Or_int b_cmp_Or_int Tryd.ntmps67 hl (compC_rc x_cmp_Or_int _ _ _ _ k_cmp_Or_int) h

/-! ### cmp.Compare(int64) -/
def c_cmp_Compare_int64 : C := (.seq (.reg [⟨some 4, .mv (.c (.d (.int .i64 0))), none⟩] [0, 1])
   (.seq (.reg [⟨some 7, .mv (.t 0), none⟩,
        ⟨some 8, .call 90 [(.t 7)], none⟩,
        ⟨some 5, .mv (.t 8), none⟩] [0, 1, 5])
    (.seq (.reg [⟨some 9, .mv (.t 1), none⟩,
         ⟨some 10, .call 90 [(.t 9)], none⟩,
         ⟨some 6, .mv (.t 10), none⟩] [0, 1, 5, 6])
     (.seq (.seq (.reg [⟨some 11, .mv (.t 5), none⟩] [0, 1, 6, 11])
       (.cond (.t 11) (.seq (.seq (.reg [⟨some 12, .mv (.t 6), none⟩] [12])
          (.cond (.t 12) (.seq (.reg [⟨some 4, .mv (.c (.d (.int .i64 0))), none⟩] [4])
            .ret)
           .skip))
         (.seq (.reg [⟨some 4, .mv (.c (.d (.int .i64 (-1)))), none⟩] [4])
          .ret))
        .skip))
      (.seq (.seq (.reg [⟨some 13, .mv (.t 6), none⟩] [0, 1, 13])
        (.cond (.t 13) (.seq (.reg [⟨some 4, .mv (.c (.d (.int .i64 1))), none⟩] [4])
          .ret)
         .skip))
       (.seq (.seq (.reg [⟨some 14, .mv (.t 0), none⟩,
             ⟨some 15, .mv (.t 1), none⟩,
             ⟨some 16, .bin .lss (.t 14) (.t 15), none⟩] [0, 1, 16])
         (.cond (.t 16) (.seq (.reg [⟨some 4, .mv (.c (.d (.int .i64 (-1)))), none⟩] [4])
           .ret)
          .skip))
        (.seq (.seq (.reg [⟨some 17, .mv (.t 0), none⟩,
              ⟨some 18, .mv (.t 1), none⟩,
              ⟨some 19, .bin .gtr (.t 17) (.t 18), none⟩] [19])
          (.cond (.t 19) (.seq (.reg [⟨some 4, .mv (.c (.d (.int .i64 1))), none⟩] [4])
            .ret)
           .skip))
         (.seq (.reg [⟨some 4, .mv (.c (.d (.int .i64 0))), none⟩] [4])
          .ret))))))))

def t_cmp_Compare_int64 : List (List Nat × PT) := [([0, 1], .done), ([0, 1, 5], .done), ([0, 1, 5, 6], .done), ([0, 1, 6, 11], .done), ([12], .done), ([4], .done), ([4], .done), ([0, 1, 13], .done), ([4], .done), ([0, 1, 16], .done), ([4], .done), ([19], .done), ([4], .done), ([4], .done)]

noncomputable def x_cmp_Compare_int64 : Cx := ⟨Tryd.prog, 68, Tryd.f68, 20, [], [], [.t 4]⟩
theorem g_cmp_Compare_int64 : Good x_cmp_Compare_int64 := ⟨Tryd.func68, by kernel_rfl⟩
theorem rs_cmp_Compare_int64 : x_cmp_Compare_int64.rs = [.t 4] := rfl
theorem k_cmp_Compare_int64 : compC Tryd.prog 20 [] [] (Tryd.f68.body.getD .skip) t_cmp_Compare_int64 = some (c_cmp_Compare_int64, []) := by kernel_rfl
theorem b_cmp_Compare_int64 : Tryd.f68.body = some (Tryd.f68.body.getD .skip) := by kernel_rfl
theorem i_cmp_Compare_int64 {args : List AV} {σ : Heap} {K : AV → Heap → Prop} (hl : args.length ≤ 20) (h : Run x_cmp_Compare_int64 K [.code c_cmp_Compare_int64] (argF args) E σ) : ACalls Tryd.prog 68 args σ K :=
  acalls_of (cx := x_cmp_Compare_int64) g_cmp_Compare_int64 b_cmp_Compare_int64 Tryd.ntmps68 hl (compC_rc x_cmp_Compare_int64 _ _ _ _ k_cmp_Compare_int64) h

/-! ### amortcost/amortcostref19.order -/
def c_r19_order : C := (.seq (.reg [⟨some 2, .mv (.c (.d (.int .i64 0))), none⟩] [0])
   (.seq (.seq (.reg [⟨some 3, .mv (.t 0), none⟩] [3])
     (.cond (.t 3) (.seq (.reg [⟨some 2, .mv (.c (.d (.int .i64 (-1)))), none⟩] [2])
       .ret)
      .skip))
    (.seq (.reg [⟨some 2, .mv (.c (.d (.int .i64 1))), none⟩] [2])
     .ret)))

def t_r19_order : List (List Nat × PT) := [([0], .done), ([3], .done), ([2], .done), ([2], .done)]

noncomputable def x_r19_order : Cx := ⟨Tryd.prog, 69, Tryd.f69, 4, [], [], [.t 2]⟩
theorem g_r19_order : Good x_r19_order := ⟨Tryd.func69, by kernel_rfl⟩
theorem rs_r19_order : x_r19_order.rs = [.t 2] := rfl
theorem k_r19_order : compC Tryd.prog 4 [] [] (Tryd.f69.body.getD .skip) t_r19_order = some (c_r19_order, []) := by kernel_rfl
theorem b_r19_order : Tryd.f69.body = some (Tryd.f69.body.getD .skip) := by kernel_rfl
theorem i_r19_order {args : List AV} {σ : Heap} {K : AV → Heap → Prop} (hl : args.length ≤ 4) (h : Run x_r19_order K [.code c_r19_order] (argF args) E σ) : ACalls Tryd.prog 69 args σ K :=
  acalls_of (cx := x_r19_order) g_r19_order b_r19_order Tryd.ntmps69 hl (compC_rc x_r19_order _ _ _ _ k_r19_order) h

/-! ### amortcost/amortcostref1.FromInt -/
def c_r1_FromInt : C := (.seq (.reg [⟨some 2, .al [(.d (.bool false)), .nils, .nils] false, none⟩] [0, 2])
   (.seq (.seq (.reg [⟨some 3, .mv (.t 0), none⟩,
         ⟨some 4, .bin .lss (.t 3) (.c (.d (.int .i64 0))), none⟩] [0, 2, 4])
     (.cond (.t 4) (.seq (.reg [⟨some 5, .mv (.t 0), none⟩,
           ⟨some 6, .bin .add (.t 5) (.c (.d (.int .i64 1))), none⟩,
           ⟨some 7, .un .neg (.t 6), none⟩,
           ⟨some 8, .conv .u64 (.t 7), none⟩,
           ⟨some 9, .bin .add (.t 8) (.c (.d (.int .u64 1))), none⟩,
           ⟨some 10, .call 92 [(.t 9)], none⟩,
           ⟨some 11, .bsl 1 1 [(.d (.int .u32 0))] [(0, 1, (.c (.d (.int .u32 1))))], none⟩,
           ⟨some 12, .call 91 [(.c (.d (.bool true))), (.t 10), (.t 11)], none⟩,
           ⟨none, .st (.t 2) (.t 12) 3, none⟩] [2])
       .ret)
      .skip))
    (.seq (.reg [⟨some 13, .mv (.t 0), none⟩,
         ⟨some 14, .conv .u64 (.t 13), none⟩,
         ⟨some 15, .call 92 [(.t 14)], none⟩,
         ⟨some 16, .bsl 1 1 [(.d (.int .u32 0))] [(0, 1, (.c (.d (.int .u32 1))))], none⟩,
         ⟨some 17, .call 91 [(.c (.d (.bool false))), (.t 15), (.t 16)], none⟩,
         ⟨none, .st (.t 2) (.t 17) 3, none⟩] [2])
     .ret)))

def t_r1_FromInt : List (List Nat × PT) := [([0, 2], .done), ([0, 2, 4], .done), ([2], .done), ([2], .done)]

noncomputable def x_r1_FromInt : Cx := ⟨Tryd.prog, 71, Tryd.f71, 18, [], [], [.c 2 (some 3)]⟩
theorem g_r1_FromInt : Good x_r1_FromInt := ⟨Tryd.func71, by kernel_rfl⟩
theorem rs_r1_FromInt : x_r1_FromInt.rs = [.c 2 (some 3)] := rfl
theorem k_r1_FromInt : compC Tryd.prog 18 [] [] (Tryd.f71.body.getD .skip) t_r1_FromInt = some (c_r1_FromInt, []) := by kernel_rfl
theorem b_r1_FromInt : Tryd.f71.body = some (Tryd.f71.body.getD .skip) := by kernel_rfl
theorem i_r1_FromInt {args : List AV} {σ : Heap} {K : AV → Heap → Prop} (hl : args.length ≤ 18) (h : Run x_r1_FromInt K [.code c_r1_FromInt] (argF args) E σ) : ACalls Tryd.prog 71 args σ K :=
  acalls_of (cx := x_r1_FromInt) g_r1_FromInt b_r1_FromInt Tryd.ntmps71 hl (compC_rc x_r1_FromInt _ _ _ _ k_r1_FromInt) h

/-! ### amortcost/amortcostref1.Add -/
def c_r1_Add : C := (.seq (.reg [⟨some 2, .box (.t 0) false, none⟩,
       ⟨some 3, .box (.t 1) false, none⟩,
       ⟨some 4, .al [(.d (.bool false)), .nils, .nils] false, none⟩] [2, 3, 4])
   (.seq (.reg [⟨some 8, .ldl (.t 2) (some 3), none⟩,
        ⟨some 10, .ldl (.t 3) (some 3), none⟩,
        ⟨some 9, .call 93 [(.t 8)], none⟩,
        ⟨some 11, .call 93 [(.t 10)], none⟩,
        ⟨none, .st (.t 2) (.t 9) 3, none⟩,
        ⟨none, .st (.t 3) (.t 11) 3, none⟩] [2, 3, 4])
    (.seq (.reg [⟨some 12, .fld (.t 2) 1, none⟩,
         ⟨some 13, .ldl (.t 12) none, none⟩,
         ⟨some 14, .fld (.t 3) 2, none⟩,
         ⟨some 15, .ldl (.t 14) none, none⟩,
         ⟨some 17, .fld (.t 3) 1, none⟩,
         ⟨some 18, .ldl (.t 17) none, none⟩,
         ⟨some 19, .fld (.t 2) 2, none⟩,
         ⟨some 20, .ldl (.t 19) none, none⟩,
         ⟨some 16, .call 94 [(.t 13), (.t 15)], none⟩,
         ⟨some 21, .call 94 [(.t 18), (.t 20)], none⟩,
         ⟨some 5, .mv (.t 16), none⟩,
         ⟨some 6, .mv (.t 21), none⟩] [2, 3, 4, 5, 6])
     (.seq (.reg [⟨some 22, .fld (.t 2) 2, none⟩,
          ⟨some 23, .ldl (.t 22) none, none⟩,
          ⟨some 24, .fld (.t 3) 2, none⟩,
          ⟨some 25, .ldl (.t 24) none, none⟩,
          ⟨some 26, .call 94 [(.t 23), (.t 25)], none⟩,
          ⟨some 7, .mv (.t 26), none⟩] [2, 3, 4, 5, 6, 7])
      (.seq (.seq (.reg [⟨some 27, .fld (.t 2) 0, none⟩,
            ⟨some 28, .ldl (.t 27) none, none⟩,
            ⟨some 29, .fld (.t 3) 0, none⟩,
            ⟨some 30, .ldl (.t 29) none, none⟩,
            ⟨some 31, .binb .eql (.t 28) (.t 30), none⟩] [2, 3, 4, 5, 6, 7, 31])
        (.cond (.t 31) (.seq (.reg [⟨some 32, .fld (.t 2) 0, none⟩,
              ⟨some 33, .ldl (.t 32) none, none⟩,
              ⟨some 34, .mv (.t 5), none⟩,
              ⟨some 35, .mv (.t 6), none⟩,
              ⟨some 37, .mv (.t 7), none⟩,
              ⟨some 36, .call 95 [(.t 34), (.t 35)], none⟩,
              ⟨some 38, .call 91 [(.t 33), (.t 36), (.t 37)], none⟩,
              ⟨none, .st (.t 4) (.t 38) 3, none⟩] [4])
          .ret)
         .skip))
       (.seq (.seq (.reg [⟨some 39, .mv (.t 5), none⟩,
             ⟨some 40, .mv (.t 6), none⟩,
             ⟨some 41, .call 96 [(.t 39), (.t 40)], none⟩,
             ⟨some 42, .bin .geq (.t 41) (.c (.d (.int .i64 0))), none⟩] [2, 3, 4, 5, 6, 7, 42])
         (.cond (.t 42) (.seq (.reg [⟨some 43, .fld (.t 2) 0, none⟩,
               ⟨some 44, .ldl (.t 43) none, none⟩,
               ⟨some 45, .mv (.t 5), none⟩,
               ⟨some 46, .mv (.t 6), none⟩,
               ⟨some 48, .mv (.t 7), none⟩,
               ⟨some 47, .call 97 [(.t 45), (.t 46)], none⟩,
               ⟨some 49, .call 91 [(.t 44), (.t 47), (.t 48)], none⟩,
               ⟨none, .st (.t 4) (.t 49) 3, none⟩] [4])
           .ret)
          .skip))
        (.seq (.reg [⟨some 50, .fld (.t 3) 0, none⟩,
             ⟨some 51, .ldl (.t 50) none, none⟩,
             ⟨some 52, .mv (.t 6), none⟩,
             ⟨some 53, .mv (.t 5), none⟩,
             ⟨some 55, .mv (.t 7), none⟩,
             ⟨some 54, .call 97 [(.t 52), (.t 53)], none⟩,
             ⟨some 56, .call 91 [(.t 51), (.t 54), (.t 55)], none⟩,
             ⟨none, .st (.t 4) (.t 56) 3, none⟩] [4])
         .ret)))))))

def t_r1_Add : List (List Nat × PT) := [([2, 3, 4], .done), ([2, 3, 4], (.one 0 (.one 2 (.one 1 (.one 3 (.one 4 (.one 5 .done))))))), ([2, 3, 4, 5, 6], (.one 0 (.one 1 (.one 2 (.one 3 (.one 5 (.one 6 (.one 7 (.one 8 (.one 4 (.one 9 (.one 10 (.one 11 .done))))))))))))), ([2, 3, 4, 5, 6, 7], .done), ([2, 3, 4, 5, 6, 7, 31], .done), ([4], (.one 0 (.one 1 (.one 2 (.one 3 (.one 5 (.one 4 (.one 6 (.one 7 .done))))))))), ([2, 3, 4, 5, 6, 7, 42], .done), ([4], (.one 0 (.one 1 (.one 2 (.one 3 (.one 5 (.one 4 (.one 6 (.one 7 .done))))))))), ([4], (.one 0 (.one 1 (.one 2 (.one 3 (.one 5 (.one 4 (.one 6 (.one 7 .done)))))))))]

noncomputable def x_r1_Add : Cx := ⟨Tryd.prog, 72, Tryd.f72, 57, [300008, 300010, 300013, 300015, 300018, 300020, 300023, 300025, 300028, 300030, 300033, 300044, 300051], [], [.c 4 (some 3)]⟩
theorem g_r1_Add : Good x_r1_Add := ⟨Tryd.func72, by kernel_rfl⟩
theorem rs_r1_Add : x_r1_Add.rs = [.c 4 (some 3)] := rfl
theorem k_r1_Add : compC Tryd.prog 57 [300008, 300010, 300013, 300015, 300018, 300020, 300023, 300025, 300028, 300030, 300033, 300044, 300051] [] (Tryd.f72.body.getD .skip) t_r1_Add = some (c_r1_Add, []) := by kernel_rfl
theorem b_r1_Add : Tryd.f72.body = some (Tryd.f72.body.getD .skip) := by kernel_rfl
theorem i_r1_Add {args : List AV} {σ : Heap} {K : AV → Heap → Prop} (hl : args.length ≤ 57) (h : Run x_r1_Add K [.code c_r1_Add] (argF args) E σ) : ACalls Tryd.prog 72 args σ K :=
  acalls_of (cx := x_r1_Add) g_r1_Add b_r1_Add Tryd.ntmps72 hl (compC_rc x_r1_Add _ _ _ _ k_r1_Add) h

/-! ### amortcost/amortcostref1.Sign -/
def c_r1_Sign : C := (.seq (.reg [⟨some 1, .box (.t 0) false, none⟩,
       ⟨some 2, .mv (.c (.d (.int .i64 0))), none⟩] [1])
   (.seq (.reg [⟨some 3, .ldl (.t 1) (some 3), none⟩,
        ⟨some 4, .call 93 [(.t 3)], none⟩,
        ⟨none, .st (.t 1) (.t 4) 3, none⟩] [1])
    (.seq (.block 0 (.seq (.reg [⟨some 6, .fld (.t 1) 1, none⟩,
           ⟨some 7, .ldl (.t 6) none, none⟩,
           ⟨some 8, .len (.t 7), none⟩,
           ⟨some 9, .bin .eql (.t 8) (.c (.d (.int .i64 0))), none⟩,
           ⟨some 5, .mv (.t 9), none⟩] [1, 5])
       (.cond (.t 5) (.seq (.reg [⟨some 2, .mv (.c (.d (.int .i64 0))), none⟩] [2])
         .ret)
        (.seq (.reg [⟨some 11, .fld (.t 1) 0, none⟩,
             ⟨some 12, .ldl (.t 11) none, none⟩,
             ⟨some 10, .mv (.t 12), none⟩] [10])
         (.cond (.t 10) (.seq (.reg [⟨some 2, .mv (.c (.d (.int .i64 (-1)))), none⟩] [2])
           .ret)
          .skip)))))
     (.seq (.reg [⟨some 2, .mv (.c (.d (.int .i64 1))), none⟩] [2])
      .ret))))

def t_r1_Sign : List (List Nat × PT) := [([1], .done), ([1], .done), ([1, 5], .done), ([2], .done), ([10], .done), ([2], .done), ([2], .done)]

noncomputable def x_r1_Sign : Cx := ⟨Tryd.prog, 73, Tryd.f73, 13, [300003, 300007, 300012], [], [.t 2]⟩
theorem g_r1_Sign : Good x_r1_Sign := ⟨Tryd.func73, by kernel_rfl⟩
theorem rs_r1_Sign : x_r1_Sign.rs = [.t 2] := rfl
theorem k_r1_Sign : compC Tryd.prog 13 [300003, 300007, 300012] [] (Tryd.f73.body.getD .skip) t_r1_Sign = some (c_r1_Sign, []) := by kernel_rfl
theorem b_r1_Sign : Tryd.f73.body = some (Tryd.f73.body.getD .skip) := by kernel_rfl
theorem i_r1_Sign {args : List AV} {σ : Heap} {K : AV → Heap → Prop} (hl : args.length ≤ 13) (h : Run x_r1_Sign K [.code c_r1_Sign] (argF args) E σ) : ACalls Tryd.prog 73 args σ K :=
  acalls_of (cx := x_r1_Sign) g_r1_Sign b_r1_Sign Tryd.ntmps73 hl (compC_rc x_r1_Sign _ _ _ _ k_r1_Sign) h

/-! ### slices.ContainsFunc(()amortcost/api.Lin,amortcost/api.Lin) -/
def c_slices_ContainsFunc_api_Lin : C := (.seq (.reg [⟨some 4, .mv (.c (.d (.bool false))), none⟩] [0, 1])
   (.seq (.reg [⟨some 5, .mv (.t 0), none⟩,
        ⟨some 6, .mv (.t 1), none⟩,
        ⟨some 7, .call 98 [(.t 5), (.t 6)], none⟩,
        ⟨some 8, .bin .geq (.t 7) (.c (.d (.int .i64 0))), none⟩,
        ⟨some 4, .mv (.t 8), none⟩] [4])
    .ret))

def t_slices_ContainsFunc_api_Lin : List (List Nat × PT) := [([0, 1], .done), ([4], .done)]

noncomputable def x_slices_ContainsFunc_api_Lin : Cx := ⟨Tryd.prog, 74, Tryd.f74, 9, [], [], [.t 4]⟩
theorem g_slices_ContainsFunc_api_Lin : Good x_slices_ContainsFunc_api_Lin := ⟨Tryd.func74, by kernel_rfl⟩
theorem rs_slices_ContainsFunc_api_Lin : x_slices_ContainsFunc_api_Lin.rs = [.t 4] := rfl
theorem k_slices_ContainsFunc_api_Lin : compC Tryd.prog 9 [] [] (Tryd.f74.body.getD .skip) t_slices_ContainsFunc_api_Lin = some (c_slices_ContainsFunc_api_Lin, []) := by kernel_rfl
theorem b_slices_ContainsFunc_api_Lin : Tryd.f74.body = some (Tryd.f74.body.getD .skip) := by kernel_rfl
theorem i_slices_ContainsFunc_api_Lin {args : List AV} {σ : Heap} {K : AV → Heap → Prop} (hl : args.length ≤ 9) (h : Run x_slices_ContainsFunc_api_Lin K [.code c_slices_ContainsFunc_api_Lin] (argF args) E σ) : ACalls Tryd.prog 74 args σ K :=
  acalls_of (cx := x_slices_ContainsFunc_api_Lin) g_slices_ContainsFunc_api_Lin b_slices_ContainsFunc_api_Lin Tryd.ntmps74 hl (compC_rc x_slices_ContainsFunc_api_Lin _ _ _ _ k_slices_ContainsFunc_api_Lin) h

/-! ### amortcost/linear.Subst$1 -/
def c_linear_Subst_1 : C := (.seq (.reg [⟨some 1, .box (.t 0) false, none⟩,
       ⟨some 2, .mv (.c (.d (.bool false))), none⟩] [1])
   (.seq (.reg [⟨some 3, .ldl (.t 1) (some 2), none⟩,
        ⟨some 4, .call 35 [(.t 3)], none⟩,
        ⟨some 5, .un .not (.t 4), none⟩,
        ⟨some 2, .mv (.t 5), none⟩] [2])
    .ret))

def t_linear_Subst_1 : List (List Nat × PT) := [([1], .done), ([2], .done)]

noncomputable def x_linear_Subst_1 : Cx := ⟨Tryd.prog, 75, Tryd.f75, 6, [300003], [], [.t 2]⟩
theorem g_linear_Subst_1 : Good x_linear_Subst_1 := ⟨Tryd.func75, by kernel_rfl⟩
theorem rs_linear_Subst_1 : x_linear_Subst_1.rs = [.t 2] := rfl
theorem k_linear_Subst_1 : compC Tryd.prog 6 [300003] [] (Tryd.f75.body.getD .skip) t_linear_Subst_1 = some (c_linear_Subst_1, []) := by kernel_rfl
theorem b_linear_Subst_1 : Tryd.f75.body = some (Tryd.f75.body.getD .skip) := by kernel_rfl
theorem i_linear_Subst_1 {args : List AV} {σ : Heap} {K : AV → Heap → Prop} (hl : args.length ≤ 6) (h : Run x_linear_Subst_1 K [.code c_linear_Subst_1] (argF args) E σ) : ACalls Tryd.prog 75 args σ K :=
  acalls_of (cx := x_linear_Subst_1) g_linear_Subst_1 b_linear_Subst_1 Tryd.ntmps75 hl (compC_rc x_linear_Subst_1 _ _ _ _ k_linear_Subst_1) h

/-! ### amortcost/linear.repeated -/
def c_linear_repeated : C := (.seq (.reg [⟨some 2, .mv (.c (.d (.bool false))), none⟩] [0])
   (.seq (.reg [⟨some 4, .mv (.t 0), none⟩,
        ⟨some 5, .call 99 [(.t 4)], none⟩,
        ⟨some 3, .mv (.t 5), none⟩] [0, 3])
    (.seq (.reg [⟨some 6, .mv (.t 3), none⟩,
         ⟨some 7, .call 100 [(.t 6)], none⟩] [0, 3])
     (.seq (.reg [⟨some 8, .mv (.t 3), none⟩,
          ⟨some 9, .call 101 [(.t 8)], none⟩,
          ⟨some 10, .len (.t 9), none⟩,
          ⟨some 11, .mv (.t 0), none⟩,
          ⟨some 12, .len (.t 11), none⟩,
          ⟨some 13, .bin .lss (.t 10) (.t 12), none⟩,
          ⟨some 2, .mv (.t 13), none⟩] [2])
      .ret))))

def t_linear_repeated : List (List Nat × PT) := [([0], .done), ([0, 3], .done), ([0, 3], .done), ([2], .done)]

noncomputable def x_linear_repeated : Cx := ⟨Tryd.prog, 76, Tryd.f76, 14, [], [], [.t 2]⟩
theorem g_linear_repeated : Good x_linear_repeated := ⟨Tryd.func76, by kernel_rfl⟩
theorem rs_linear_repeated : x_linear_repeated.rs = [.t 2] := rfl
theorem k_linear_repeated : compC Tryd.prog 14 [] [] (Tryd.f76.body.getD .skip) t_linear_repeated = some (c_linear_repeated, []) := by kernel_rfl
theorem b_linear_repeated : Tryd.f76.body = some (Tryd.f76.body.getD .skip) := by kernel_rfl
theorem i_linear_repeated {args : List AV} {σ : Heap} {K : AV → Heap → Prop} (hl : args.length ≤ 14) (h : Run x_linear_repeated K [.code c_linear_repeated] (argF args) E σ) : ACalls Tryd.prog 76 args σ K :=
  acalls_of (cx := x_linear_repeated) g_linear_repeated b_linear_repeated Tryd.ntmps76 hl (compC_rc x_linear_repeated _ _ _ _ k_linear_repeated) h

/-! ### slices.Index(()int,int) -/
/- slots of c_slices_Index_int_L0 : [0, 1, 7, 8] -/
def c_slices_Index_int_L0 : C := (.seq (.reg [⟨some 9, .bin .lss (.t 8) (.t 7), none⟩] [0, 1, 7, 8, 9])
   (.seq (.cond (.t 9) .skip
     (.exit 0))
    (.seq (.block 1 (.seq (.reg [⟨some 10, .mv (.t 8), none⟩,
           ⟨some 5, .mv (.t 10), none⟩] [0, 1, 5, 7, 8])
       (.seq (.reg [⟨some 11, .mv (.t 1), none⟩,
            ⟨some 12, .mv (.t 0), none⟩,
            ⟨some 13, .mv (.t 5), none⟩,
            ⟨some 14, .ix (.t 12) (.t 13) 1, none⟩,
            ⟨some 15, .ld (.t 14) none, none⟩,
            ⟨some 16, .bin .eql (.t 11) (.t 15), none⟩] [0, 1, 5, 7, 8, 16])
        (.cond (.t 16) (.seq (.reg [⟨some 17, .mv (.t 5), none⟩,
              ⟨some 4, .mv (.t 17), none⟩] [4])
          .ret)
         .skip))))
     (.reg [⟨some 18, .bin .add (.t 8) (.c (.d (.int .i64 1))), none⟩,
         ⟨some 8, .mv (.t 18), none⟩] [0, 1, 7, 8]))))

def c_slices_Index_int : C := (.seq (.reg [⟨some 4, .mv (.c (.d (.int .i64 0))), none⟩] [0, 1])
   (.seq (.seq (.reg [⟨some 6, .mv (.t 0), none⟩,
         ⟨some 7, .len (.t 6), none⟩,
         ⟨some 8, .mv (.c (.d (.int .i64 0))), none⟩] [0, 1, 7, 8])
     (.block 0 (.loop c_slices_Index_int_L0)))
    (.seq (.reg [⟨some 4, .mv (.c (.d (.int .i64 (-1)))), none⟩] [4])
     .ret)))

def t_slices_Index_int : List (List Nat × PT) := [([0, 1], .done), ([0, 1, 7, 8], .done), ([0, 1, 7, 8, 9], .done), ([0, 1, 5, 7, 8], .done), ([0, 1, 5, 7, 8, 16], .done), ([4], .done), ([0, 1, 7, 8], .done), ([4], .done)]

noncomputable def x_slices_Index_int : Cx := ⟨Tryd.prog, 77, Tryd.f77, 19, [], [], [.t 4]⟩
theorem g_slices_Index_int : Good x_slices_Index_int := ⟨Tryd.func77, by kernel_rfl⟩
theorem rs_slices_Index_int : x_slices_Index_int.rs = [.t 4] := rfl
theorem k_slices_Index_int : compC Tryd.prog 19 [] [] (Tryd.f77.body.getD .skip) t_slices_Index_int = some (c_slices_Index_int, []) := by kernel_rfl
theorem b_slices_Index_int : Tryd.f77.body = some (Tryd.f77.body.getD .skip) := by kernel_rfl
theorem i_slices_Index_int {args : List AV} {σ : Heap} {K : AV → Heap → Prop} (hl : args.length ≤ 19) (h : Run x_slices_Index_int K [.code c_slices_Index_int] (argF args) E σ) : ACalls Tryd.prog 77 args σ K :=
  acalls_of (cx := x_slices_Index_int) g_slices_Index_int b_slices_Index_int Tryd.ntmps77 hl (compC_rc x_slices_Index_int _ _ _ _ k_slices_Index_int) h

/-! ### slices.Clone(()amortcost/api.LinTerm,amortcost/api.LinTerm) -/
def c_slices_Clone_api_LinTerm : C := (.seq (.reg [⟨some 2, .mv (.c .nils), none⟩] [0])
   (.seq (.seq (.reg [⟨some 3, .mv (.t 0), none⟩,
         ⟨some 4, .ex (.snil false) [(.t 3)], none⟩] [0, 4])
     (.cond (.t 4) (.seq (.reg [⟨some 2, .mv (.c .nils), none⟩] [2])
       .ret)
      .skip))
    (.seq (.reg [⟨some 5, .bslm 49 2 0 [] [], none⟩,
         ⟨some 6, .mv (.t 0), none⟩,
         ⟨some 7, .appm 49 2 16 (.t 5) (.t 6), none⟩,
         ⟨some 2, .mv (.t 7), none⟩] [2])
     .ret)))

def t_slices_Clone_api_LinTerm : List (List Nat × PT) := [([0], .done), ([0, 4], .done), ([2], .done), ([2], .done)]

noncomputable def x_slices_Clone_api_LinTerm : Cx := ⟨Tryd.prog, 85, Tryd.f85, 8, [5, 7], [], [.t 2]⟩
theorem g_slices_Clone_api_LinTerm : Good x_slices_Clone_api_LinTerm := ⟨Tryd.func85, by kernel_rfl⟩
theorem rs_slices_Clone_api_LinTerm : x_slices_Clone_api_LinTerm.rs = [.t 2] := rfl
theorem k_slices_Clone_api_LinTerm : compC Tryd.prog 8 [5, 7] [] (Tryd.f85.body.getD .skip) t_slices_Clone_api_LinTerm = some (c_slices_Clone_api_LinTerm, []) := by kernel_rfl
theorem b_slices_Clone_api_LinTerm : Tryd.f85.body = some (Tryd.f85.body.getD .skip) := by kernel_rfl
theorem i_slices_Clone_api_LinTerm {args : List AV} {σ : Heap} {K : AV → Heap → Prop} (hl : args.length ≤ 8) (h : Run x_slices_Clone_api_LinTerm K [.code c_slices_Clone_api_LinTerm] (argF args) E σ) : ACalls Tryd.prog 85 args σ K :=
  acalls_of (cx := x_slices_Clone_api_LinTerm) g_slices_Clone_api_LinTerm b_slices_Clone_api_LinTerm Tryd.ntmps85 hl (compC_rc x_slices_Clone_api_LinTerm _ _ _ _ k_slices_Clone_api_LinTerm) h

/-! ### amortcost/linear.collect$1 -/
def c_linear_collect_1 : C := (.seq (.reg [⟨some 2, .box (.t 0) false, none⟩,
       ⟨some 3, .box (.t 1) false, none⟩,
       ⟨some 4, .mv (.c (.d (.int .i64 0))), none⟩] [2, 3])
   (.seq (.reg [⟨some 5, .fld (.t 2) 0, none⟩,
        ⟨some 6, .ldl (.t 5) none, none⟩,
        ⟨some 7, .fld (.t 3) 0, none⟩,
        ⟨some 8, .ldl (.t 7) none, none⟩,
        ⟨some 9, .call 64 [(.t 6), (.t 8)], none⟩,
        ⟨some 4, .mv (.t 9), none⟩] [4])
    .ret))

def t_linear_collect_1 : List (List Nat × PT) := [([2, 3], .done), ([4], .done)]

noncomputable def x_linear_collect_1 : Cx := ⟨Tryd.prog, 87, Tryd.f87, 10, [300006, 300008], [], [.t 4]⟩
theorem g_linear_collect_1 : Good x_linear_collect_1 := ⟨Tryd.func87, by kernel_rfl⟩
theorem rs_linear_collect_1 : x_linear_collect_1.rs = [.t 4] := rfl
theorem k_linear_collect_1 : compC Tryd.prog 10 [300006, 300008] [] (Tryd.f87.body.getD .skip) t_linear_collect_1 = some (c_linear_collect_1, []) := by kernel_rfl
theorem b_linear_collect_1 : Tryd.f87.body = some (Tryd.f87.body.getD .skip) := by kernel_rfl
theorem i_linear_collect_1 {args : List AV} {σ : Heap} {K : AV → Heap → Prop} (hl : args.length ≤ 10) (h : Run x_linear_collect_1 K [.code c_linear_collect_1] (argF args) E σ) : ACalls Tryd.prog 87 args σ K :=
  acalls_of (cx := x_linear_collect_1) g_linear_collect_1 b_linear_collect_1 Tryd.ntmps87 hl (compC_rc x_linear_collect_1 _ _ _ _ k_linear_collect_1) h

/-! ### slices.Grow(()amortcost/api.LinTerm,amortcost/api.LinTerm) -/
def c_slices_Grow_api_LinTerm : C := (.seq (.reg [⟨some 4, .mv (.c .nils), none⟩] [0, 1])
   (.seq (.seq (.reg [⟨some 5, .mv (.t 1), none⟩,
         ⟨some 6, .bin .lss (.t 5) (.c (.d (.int .i64 0))), none⟩] [0, 1, 6])
     (.cond (.t 6) .bad
      .skip))
    (.seq (.seq (.reg [⟨some 8, .mv (.t 1), none⟩,
          ⟨some 9, .mv (.t 0), none⟩,
          ⟨some 10, .ex .cap [(.t 9)], none⟩,
          ⟨some 11, .mv (.t 0), none⟩,
          ⟨some 12, .len (.t 11), none⟩,
          ⟨some 13, .bin .sub (.t 10) (.t 12), none⟩,
          ⟨some 14, .bin .sub (.t 8) (.t 13), none⟩,
          ⟨some 1, .mv (.t 14), none⟩] [0, 1])
      (.seq (.reg [⟨some 15, .mv (.t 1), none⟩,
           ⟨some 16, .bin .gtr (.t 15) (.c (.d (.int .i64 0))), none⟩] [0, 1, 16])
       (.cond (.t 16) (.reg [⟨some 17, .mv (.t 0), none⟩,
            ⟨some 18, .mv (.t 0), none⟩,
            ⟨some 19, .ex .cap [(.t 18)], none⟩,
            ⟨some 20, .sls (.t 17) none (some (.t 19)) none 2, none⟩,
            ⟨some 21, .mv (.t 1), none⟩,
            ⟨some 22, .ex (.appz 49 2 16 [(.d (.int .i64 0)), (.d (.int .i64 0))]) [(.t 20), (.t 21)], none⟩,
            ⟨some 23, .mv (.t 0), none⟩,
            ⟨some 24, .len (.t 23), none⟩,
            ⟨some 25, .trn (.t 22) (.t 24), none⟩,
            ⟨some 0, .mv (.t 25), none⟩] [0])
        .skip)))
     (.seq (.reg [⟨some 26, .mv (.t 0), none⟩,
          ⟨some 4, .mv (.t 26), none⟩] [4])
      .ret))))

def t_slices_Grow_api_LinTerm : List (List Nat × PT) := [([0, 1], .done), ([0, 1, 6], .done), ([], .done), ([0, 1], .done), ([0, 1, 16], .done), ([0], .done), ([4], .done)]

noncomputable def x_slices_Grow_api_LinTerm : Cx := ⟨Tryd.prog, 88, Tryd.f88, 27, [25], [], [.t 4]⟩
theorem g_slices_Grow_api_LinTerm : Good x_slices_Grow_api_LinTerm := ⟨Tryd.func88, by kernel_rfl⟩
theorem rs_slices_Grow_api_LinTerm : x_slices_Grow_api_LinTerm.rs = [.t 4] := rfl
theorem k_slices_Grow_api_LinTerm : compC Tryd.prog 27 [25] [] (Tryd.f88.body.getD .skip) t_slices_Grow_api_LinTerm = some (c_slices_Grow_api_LinTerm, []) := by kernel_rfl
theorem b_slices_Grow_api_LinTerm : Tryd.f88.body = some (Tryd.f88.body.getD .skip) := by kernel_rfl
theorem i_slices_Grow_api_LinTerm {args : List AV} {σ : Heap} {K : AV → Heap → Prop} (hl : args.length ≤ 27) (h : Run x_slices_Grow_api_LinTerm K [.code c_slices_Grow_api_LinTerm] (argF args) E σ) : ACalls Tryd.prog 88 args σ K :=
  acalls_of (cx := x_slices_Grow_api_LinTerm) g_slices_Grow_api_LinTerm b_slices_Grow_api_LinTerm Tryd.ntmps88 hl (compC_rc x_slices_Grow_api_LinTerm _ _ _ _ k_slices_Grow_api_LinTerm) h

/-! ### cmp.isNaN(int) -/
def c_cmp_isNaN_int : C := (.seq (.reg [⟨some 2, .mv (.c (.d (.bool false))), none⟩] [0])
   (.seq (.reg [⟨some 3, .mv (.t 0), none⟩,
        ⟨some 4, .mv (.t 0), none⟩,
        ⟨some 5, .bin .neq (.t 3) (.t 4), none⟩,
        ⟨some 2, .mv (.t 5), none⟩] [2])
    .ret))

def t_cmp_isNaN_int : List (List Nat × PT) := [([0], .done), ([2], .done)]

noncomputable def x_cmp_isNaN_int : Cx := ⟨Tryd.prog, 89, Tryd.f89, 6, [], [], [.t 2]⟩
theorem g_cmp_isNaN_int : Good x_cmp_isNaN_int := ⟨Tryd.func89, by kernel_rfl⟩
theorem rs_cmp_isNaN_int : x_cmp_isNaN_int.rs = [.t 2] := rfl
theorem k_cmp_isNaN_int : compC Tryd.prog 6 [] [] (Tryd.f89.body.getD .skip) t_cmp_isNaN_int = some (c_cmp_isNaN_int, []) := by kernel_rfl
theorem b_cmp_isNaN_int : Tryd.f89.body = some (Tryd.f89.body.getD .skip) := by kernel_rfl
theorem i_cmp_isNaN_int {args : List AV} {σ : Heap} {K : AV → Heap → Prop} (hl : args.length ≤ 6) (h : Run x_cmp_isNaN_int K [.code c_cmp_isNaN_int] (argF args) E σ) : ACalls Tryd.prog 89 args σ K :=
  acalls_of (cx := x_cmp_isNaN_int) g_cmp_isNaN_int b_cmp_isNaN_int Tryd.ntmps89 hl (compC_rc x_cmp_isNaN_int _ _ _ _ k_cmp_isNaN_int) h

/-! ### cmp.isNaN(int64) -/
def c_cmp_isNaN_int64 : C := (.seq (.reg [⟨some 2, .mv (.c (.d (.bool false))), none⟩] [0])
   (.seq (.reg [⟨some 3, .mv (.t 0), none⟩,
        ⟨some 4, .mv (.t 0), none⟩,
        ⟨some 5, .bin .neq (.t 3) (.t 4), none⟩,
        ⟨some 2, .mv (.t 5), none⟩] [2])
    .ret))

def t_cmp_isNaN_int64 : List (List Nat × PT) := [([0], .done), ([2], .done)]

noncomputable def x_cmp_isNaN_int64 : Cx := ⟨Tryd.prog, 90, Tryd.f90, 6, [], [], [.t 2]⟩
theorem g_cmp_isNaN_int64 : Good x_cmp_isNaN_int64 := ⟨Tryd.func90, by kernel_rfl⟩
theorem rs_cmp_isNaN_int64 : x_cmp_isNaN_int64.rs = [.t 2] := rfl
theorem k_cmp_isNaN_int64 : compC Tryd.prog 6 [] [] (Tryd.f90.body.getD .skip) t_cmp_isNaN_int64 = some (c_cmp_isNaN_int64, []) := by kernel_rfl
theorem b_cmp_isNaN_int64 : Tryd.f90.body = some (Tryd.f90.body.getD .skip) := by kernel_rfl
theorem i_cmp_isNaN_int64 {args : List AV} {σ : Heap} {K : AV → Heap → Prop} (hl : args.length ≤ 6) (h : Run x_cmp_isNaN_int64 K [.code c_cmp_isNaN_int64] (argF args) E σ) : ACalls Tryd.prog 90 args σ K :=
  acalls_of (cx := x_cmp_isNaN_int64) g_cmp_isNaN_int64 b_cmp_isNaN_int64 Tryd.ntmps90 hl (compC_rc x_cmp_isNaN_int64 _ _ _ _ k_cmp_isNaN_int64) h

/-! ### amortcost/amortcostref1.build -/
def c_r1_build : C := (.seq (.reg [⟨some 6, .al [(.d (.bool false)), .nils, .nils] false, none⟩] [0, 1, 2, 6])
   (.seq (.reg [⟨some 8, .mv (.t 1), none⟩,
        ⟨some 9, .call 111 [(.t 8)], none⟩,
        ⟨some 10, .mv (.t 2), none⟩,
        ⟨some 11, .call 111 [(.t 10)], none⟩,
        ⟨some 1, .mv (.t 9), none⟩,
        ⟨some 2, .mv (.t 11), none⟩] [0, 1, 2, 6])
    (.seq (.seq (.reg [⟨some 12, .mv (.t 1), none⟩,
          ⟨some 13, .len (.t 12), none⟩,
          ⟨some 14, .bin .eql (.t 13) (.c (.d (.int .i64 0))), none⟩,
          ⟨some 15, .mv (.t 14), none⟩,
          ⟨some 16, .mv (.t 2), some (15, false)⟩,
          ⟨some 17, .len (.t 16), some (15, false)⟩,
          ⟨some 18, .bin .eql (.t 17) (.c (.d (.int .i64 0))), some (15, false)⟩,
          ⟨some 19, .pick (.t 15) (.c (.d (.bool true))) (.t 18), none⟩] [0, 1, 2, 6, 19])
      (.cond (.t 19) (.seq (.reg [⟨some 20, .bsl 1 1 [(.d (.int .u32 0))] [(0, 1, (.c (.d (.int .u32 1))))], none⟩,
            ⟨some 21, .bld [(.d (.bool false)), .nils, .nils] [(2, 1, (.t 20))], none⟩,
            ⟨none, .st (.t 6) (.t 21) 3, none⟩] [6])
        .ret)
       .skip))
     (.seq (.reg [⟨some 22, .mv (.t 1), none⟩,
          ⟨some 23, .mv (.t 2), none⟩,
          ⟨some 24, .call 112 [(.t 22), (.t 23)], none⟩,
          ⟨some 7, .mv (.t 24), none⟩] [0, 1, 2, 6, 7])
      (.seq (.seq (.reg [⟨some 25, .mv (.t 7), none⟩,
            ⟨some 26, .len (.t 25), none⟩,
            ⟨some 27, .bin .neq (.t 26) (.c (.d (.int .i64 1))), none⟩,
            ⟨some 28, .mv (.t 27), none⟩,
            ⟨some 29, .mv (.t 7), some (28, false)⟩,
            ⟨some 30, .ix (.t 29) (.c (.d (.int .i64 0))) 1, some (28, false)⟩,
            ⟨some 31, .ld (.t 30) none, some (28, false)⟩,
            ⟨some 32, .bin .neq (.t 31) (.c (.d (.int .u32 1))), some (28, false)⟩,
            ⟨some 33, .pick (.t 28) (.c (.d (.bool true))) (.t 32), none⟩] [0, 1, 2, 6, 7, 33])
        (.cond (.t 33) (.seq (.reg [⟨some 35, .mv (.t 1), none⟩,
              ⟨some 36, .mv (.t 7), none⟩,
              ⟨some 37, .call 113 [(.t 35), (.t 36)], none⟩,
              ⟨some 34, .mv (.t 37), none⟩,
              ⟨some 38, .ext (.t 34) 0, none⟩,
              ⟨some 39, .ext (.t 34) 1, none⟩,
              ⟨some 1, .mv (.t 38), none⟩] [0, 1, 2, 6, 7])
          (.reg [⟨some 41, .mv (.t 2), none⟩,
              ⟨some 42, .mv (.t 7), none⟩,
              ⟨some 43, .call 113 [(.t 41), (.t 42)], none⟩,
              ⟨some 40, .mv (.t 43), none⟩,
              ⟨some 44, .ext (.t 40) 0, none⟩,
              ⟨some 45, .ext (.t 40) 1, none⟩,
              ⟨some 2, .mv (.t 44), none⟩] [0, 1, 2, 6]))
         .skip))
       (.seq (.reg [⟨some 46, .mv (.t 0), none⟩,
            ⟨some 47, .mv (.t 1), none⟩,
            ⟨some 48, .mv (.t 2), none⟩,
            ⟨some 49, .bld [(.d (.bool false)), .nils, .nils] [(0, 1, (.t 46)), (1, 1, (.t 47)), (2, 1, (.t 48))], none⟩,
            ⟨none, .st (.t 6) (.t 49) 3, none⟩] [6])
        .ret))))))

def t_r1_build : List (List Nat × PT) := [([0, 1, 2, 6], .done), ([0, 1, 2, 6], .done), ([0, 1, 2, 6, 19], .done), ([6], .done), ([0, 1, 2, 6, 7], .done), ([0, 1, 2, 6, 7, 33], .done), ([0, 1, 2, 6, 7], .done), ([0, 1, 2, 6], .done), ([6], .done)]

noncomputable def x_r1_build : Cx := ⟨Tryd.prog, 91, Tryd.f91, 50, [], [], [.c 6 (some 3)]⟩
theorem g_r1_build : Good x_r1_build := ⟨Tryd.func91, by kernel_rfl⟩
theorem rs_r1_build : x_r1_build.rs = [.c 6 (some 3)] := rfl
theorem k_r1_build : compC Tryd.prog 50 [] [] (Tryd.f91.body.getD .skip) t_r1_build = some (c_r1_build, []) := by kernel_rfl
theorem b_r1_build : Tryd.f91.body = some (Tryd.f91.body.getD .skip) := by kernel_rfl
theorem i_r1_build {args : List AV} {σ : Heap} {K : AV → Heap → Prop} (hl : args.length ≤ 50) (h : Run x_r1_build K [.code c_r1_build] (argF args) E σ) : ACalls Tryd.prog 91 args σ K :=
  acalls_of (cx := x_r1_build) g_r1_build b_r1_build Tryd.ntmps91 hl (compC_rc x_r1_build _ _ _ _ k_r1_build) h

/-! ### amortcost/amortcostref1.limbs -/
/- slots of c_r1_limbs_L0 : [0, 3] -/
def c_r1_limbs_L0 : C := (.seq (.seq (.reg [⟨some 4, .mv (.t 0), none⟩,
        ⟨some 5, .bin .gtr (.t 4) (.c (.d (.int .u64 0))), none⟩] [0, 3, 5])
    (.cond (.t 5) .skip
     (.exit 0)))
   (.block 1 (.seq (.reg [⟨some 6, .mv (.t 3), none⟩,
         ⟨some 7, .mv (.t 0), none⟩,
         ⟨some 8, .bin .rem (.t 7) (.c (.d (.int .u64 1000000000))), none⟩,
         ⟨some 9, .conv .u32 (.t 8), none⟩,
         ⟨some 10, .bsl 1 1 [(.d (.int .u32 0))] [(0, 1, (.t 9))], none⟩,
         ⟨some 11, .app 117 1 4 (.t 6) (.t 10), none⟩,
         ⟨some 3, .mv (.t 11), none⟩] [0, 3])
     (.reg [⟨some 12, .mv (.t 0), none⟩,
         ⟨some 13, .bin .quo (.t 12) (.c (.d (.int .u64 1000000000))), none⟩,
         ⟨some 0, .mv (.t 13), none⟩] [0, 3]))))

def c_r1_limbs : C := (.seq (.reg [⟨some 2, .mv (.c .nils), none⟩] [0])
   (.seq (.reg [⟨some 3, .mv (.c .nils), none⟩] [0, 3])
    (.seq (.block 0 (.loop c_r1_limbs_L0))
     (.seq (.reg [⟨some 14, .mv (.t 3), none⟩,
          ⟨some 2, .mv (.t 14), none⟩] [2])
      .ret))))

def t_r1_limbs : List (List Nat × PT) := [([0], .done), ([0, 3], .done), ([0, 3, 5], .done), ([0, 3], .done), ([0, 3], .done), ([2], .done)]

noncomputable def x_r1_limbs : Cx := ⟨Tryd.prog, 92, Tryd.f92, 15, [], [], [.t 2]⟩
theorem g_r1_limbs : Good x_r1_limbs := ⟨Tryd.func92, by kernel_rfl⟩
theorem rs_r1_limbs : x_r1_limbs.rs = [.t 2] := rfl
theorem k_r1_limbs : compC Tryd.prog 15 [] [] (Tryd.f92.body.getD .skip) t_r1_limbs = some (c_r1_limbs, []) := by kernel_rfl
theorem b_r1_limbs : Tryd.f92.body = some (Tryd.f92.body.getD .skip) := by kernel_rfl
theorem i_r1_limbs {args : List AV} {σ : Heap} {K : AV → Heap → Prop} (hl : args.length ≤ 15) (h : Run x_r1_limbs K [.code c_r1_limbs] (argF args) E σ) : ACalls Tryd.prog 92 args σ K :=
  acalls_of (cx := x_r1_limbs) g_r1_limbs b_r1_limbs Tryd.ntmps92 hl (compC_rc x_r1_limbs _ _ _ _ k_r1_limbs) h

/-! ### amortcost/amortcostref1.Canonical -/
def c_r1_Canonical : C := (.seq (.reg [⟨some 1, .box (.t 0) false, none⟩,
       ⟨some 2, .al [(.d (.bool false)), .nils, .nils] false, none⟩] [1, 2])
   (.seq (.reg [⟨some 3, .fld (.t 1) 0, none⟩,
        ⟨some 4, .ldl (.t 3) none, none⟩,
        ⟨some 5, .fld (.t 1) 1, none⟩,
        ⟨some 6, .ldl (.t 5) none, none⟩,
        ⟨some 7, .fld (.t 1) 2, none⟩,
        ⟨some 8, .ldl (.t 7) none, none⟩,
        ⟨some 9, .call 91 [(.t 4), (.t 6), (.t 8)], none⟩,
        ⟨none, .st (.t 2) (.t 9) 3, none⟩] [2])
    .ret))

def t_r1_Canonical : List (List Nat × PT) := [([1, 2], .done), ([2], .done)]

noncomputable def x_r1_Canonical : Cx := ⟨Tryd.prog, 93, Tryd.f93, 10, [300004, 300006, 300008], [], [.c 2 (some 3)]⟩
theorem g_r1_Canonical : Good x_r1_Canonical := ⟨Tryd.func93, by kernel_rfl⟩
theorem rs_r1_Canonical : x_r1_Canonical.rs = [.c 2 (some 3)] := rfl
theorem k_r1_Canonical : compC Tryd.prog 10 [300004, 300006, 300008] [] (Tryd.f93.body.getD .skip) t_r1_Canonical = some (c_r1_Canonical, []) := by kernel_rfl
theorem b_r1_Canonical : Tryd.f93.body = some (Tryd.f93.body.getD .skip) := by kernel_rfl
theorem i_r1_Canonical {args : List AV} {σ : Heap} {K : AV → Heap → Prop} (hl : args.length ≤ 10) (h : Run x_r1_Canonical K [.code c_r1_Canonical] (argF args) E σ) : ACalls Tryd.prog 93 args σ K :=
  acalls_of (cx := x_r1_Canonical) g_r1_Canonical b_r1_Canonical Tryd.ntmps93 hl (compC_rc x_r1_Canonical _ _ _ _ k_r1_Canonical) h

/-! ### amortcost/amortcostref1.natMul -/
/- slots of c_r1_natMul_L0 : [0, 1, 5, 6, 7, 8] -/
def c_r1_natMul_L0 : C := (.seq (.seq (.reg [⟨some 22, .mv (.t 8), none⟩,
        ⟨some 23, .mv (.t 1), none⟩,
        ⟨some 24, .len (.t 23), none⟩,
        ⟨some 25, .bin .lss (.t 22) (.t 24), none⟩,
        ⟨some 26, .mv (.t 25), none⟩,
        ⟨some 27, .mv (.t 7), some (26, false)⟩,
        ⟨some 28, .bin .gtr (.t 27) (.c (.d (.int .u64 0))), some (26, false)⟩,
        ⟨some 29, .pick (.t 26) (.c (.d (.bool true))) (.t 28), none⟩] [0, 1, 5, 6, 7, 8, 29])
    (.cond (.t 29) .skip
     (.exit 2)))
   (.seq (.block 3 (.seq (.reg [⟨some 32, .mv (.t 7), none⟩,
          ⟨some 33, .mv (.t 5), none⟩,
          ⟨some 34, .mv (.t 6), none⟩,
          ⟨some 35, .mv (.t 8), none⟩,
          ⟨some 36, .bin .add (.t 34) (.t 35), none⟩,
          ⟨some 37, .ix (.t 33) (.t 36) 1, none⟩,
          ⟨some 38, .ld (.t 37) none, none⟩,
          ⟨some 39, .conv .u64 (.t 38), none⟩,
          ⟨some 40, .bin .add (.t 32) (.t 39), none⟩,
          ⟨some 7, .mv (.t 40), none⟩] [0, 1, 5, 6, 7, 8])
      (.seq (.seq (.reg [⟨some 41, .mv (.t 8), none⟩,
            ⟨some 42, .mv (.t 1), none⟩,
            ⟨some 43, .len (.t 42), none⟩,
            ⟨some 44, .bin .lss (.t 41) (.t 43), none⟩] [0, 1, 5, 6, 7, 8, 44])
        (.cond (.t 44) (.reg [⟨some 45, .mv (.t 7), none⟩,
             ⟨some 46, .mv (.t 0), none⟩,
             ⟨some 47, .mv (.t 6), none⟩,
             ⟨some 48, .ix (.t 46) (.t 47) 1, none⟩,
             ⟨some 49, .ld (.t 48) none, none⟩,
             ⟨some 50, .conv .u64 (.t 49), none⟩,
             ⟨some 51, .mv (.t 1), none⟩,
             ⟨some 52, .mv (.t 8), none⟩,
             ⟨some 53, .ix (.t 51) (.t 52) 1, none⟩,
             ⟨some 54, .ld (.t 53) none, none⟩,
             ⟨some 55, .conv .u64 (.t 54), none⟩,
             ⟨some 56, .bin .mul (.t 50) (.t 55), none⟩,
             ⟨some 57, .bin .add (.t 45) (.t 56), none⟩,
             ⟨some 7, .mv (.t 57), none⟩] [0, 1, 5, 6, 7, 8])
         .skip))
       (.seq (.reg [⟨some 58, .mv (.t 5), none⟩,
            ⟨some 59, .mv (.t 6), none⟩,
            ⟨some 60, .mv (.t 8), none⟩,
            ⟨some 61, .bin .add (.t 59) (.t 60), none⟩,
            ⟨some 62, .mv (.t 7), none⟩,
            ⟨some 63, .bin .rem (.t 62) (.c (.d (.int .u64 1000000000))), none⟩,
            ⟨some 64, .conv .u32 (.t 63), none⟩,
            ⟨some 65, .ix (.t 58) (.t 61) 1, none⟩,
            ⟨none, .st (.t 65) (.t 64) 1, none⟩] [0, 1, 5, 6, 7, 8])
        (.reg [⟨some 66, .mv (.t 7), none⟩,
            ⟨some 67, .bin .quo (.t 66) (.c (.d (.int .u64 1000000000))), none⟩,
            ⟨some 7, .mv (.t 67), none⟩] [0, 1, 5, 6, 7, 8])))))
    (.reg [⟨some 30, .mv (.t 8), none⟩,
        ⟨some 31, .bin .add (.t 30) (.c (.d (.int .i64 1))), none⟩,
        ⟨some 8, .mv (.t 31), none⟩] [0, 1, 5, 6, 7, 8])))

/- slots of c_r1_natMul_L1 : [0, 1, 5, 6] -/
def c_r1_natMul_L1 : C := (.seq (.seq (.reg [⟨some 16, .mv (.t 6), none⟩,
        ⟨some 17, .mv (.t 0), none⟩,
        ⟨some 18, .len (.t 17), none⟩,
        ⟨some 19, .bin .lss (.t 16) (.t 18), none⟩] [0, 1, 5, 6, 19])
    (.cond (.t 19) .skip
     (.exit 0)))
   (.seq (.block 1 (.seq (.reg [⟨some 7, .mv (.c (.d (.int .u64 0))), none⟩] [0, 1, 5, 6, 7])
      (.seq (.reg [⟨some 8, .mv (.c (.d (.int .i64 0))), none⟩] [0, 1, 5, 6, 7, 8])
       (.block 2 (.loop c_r1_natMul_L0)))))
    (.reg [⟨some 20, .mv (.t 6), none⟩,
        ⟨some 21, .bin .add (.t 20) (.c (.d (.int .i64 1))), none⟩,
        ⟨some 6, .mv (.t 21), none⟩] [0, 1, 5, 6])))

def c_r1_natMul : C := (.seq (.reg [⟨some 4, .mv (.c .nils), none⟩] [0, 1])
   (.seq (.reg [⟨some 9, .mv (.t 0), none⟩,
        ⟨some 10, .len (.t 9), none⟩,
        ⟨some 11, .mv (.t 1), none⟩,
        ⟨some 12, .len (.t 11), none⟩,
        ⟨some 13, .bin .add (.t 10) (.t 12), none⟩,
        ⟨some 14, .bin .add (.t 13) (.c (.d (.int .i64 1))), none⟩,
        ⟨some 15, .msl 117 1 4 [(.d (.int .u32 0))] (.t 14) (.t 14), none⟩,
        ⟨some 5, .mv (.t 15), none⟩] [0, 1, 5])
    (.seq (.seq (.reg [⟨some 6, .mv (.c (.d (.int .i64 0))), none⟩] [0, 1, 5, 6])
      (.block 0 (.loop c_r1_natMul_L1)))
     (.seq (.reg [⟨some 68, .mv (.t 5), none⟩,
          ⟨some 69, .call 114 [(.t 68)], none⟩,
          ⟨some 4, .mv (.t 69), none⟩] [4])
      .ret))))

def t_r1_natMul : List (List Nat × PT) := [([0, 1], .done), ([0, 1, 5], .done), ([0, 1, 5, 6], .done), ([0, 1, 5, 6, 19], .done), ([0, 1, 5, 6, 7], .done), ([0, 1, 5, 6, 7, 8], .done), ([0, 1, 5, 6, 7, 8, 29], .done), ([0, 1, 5, 6, 7, 8], .done), ([0, 1, 5, 6, 7, 8, 44], .done), ([0, 1, 5, 6, 7, 8], .done), ([0, 1, 5, 6, 7, 8], .done), ([0, 1, 5, 6, 7, 8], .done), ([0, 1, 5, 6, 7, 8], .done), ([0, 1, 5, 6], .done), ([4], .done)]

noncomputable def x_r1_natMul : Cx := ⟨Tryd.prog, 94, Tryd.f94, 70, [], [], [.t 4]⟩
theorem g_r1_natMul : Good x_r1_natMul := ⟨Tryd.func94, by kernel_rfl⟩
theorem rs_r1_natMul : x_r1_natMul.rs = [.t 4] := rfl
theorem k_r1_natMul : compC Tryd.prog 70 [] [] (Tryd.f94.body.getD .skip) t_r1_natMul = some (c_r1_natMul, []) := by kernel_rfl
theorem b_r1_natMul : Tryd.f94.body = some (Tryd.f94.body.getD .skip) := by kernel_rfl
theorem i_r1_natMul {args : List AV} {σ : Heap} {K : AV → Heap → Prop} (hl : args.length ≤ 70) (h : Run x_r1_natMul K [.code c_r1_natMul] (argF args) E σ) : ACalls Tryd.prog 94 args σ K :=
  acalls_of (cx := x_r1_natMul) g_r1_natMul b_r1_natMul Tryd.ntmps94 hl (compC_rc x_r1_natMul _ _ _ _ k_r1_natMul) h

/-! ### amortcost/amortcostref1.natAdd -/
/- slots of c_r1_natAdd_L0 : [0, 1, 5, 6, 7] -/
def c_r1_natAdd_L0 : C := (.seq (.seq (.reg [⟨some 9, .mv (.t 7), none⟩,
        ⟨some 10, .mv (.t 0), none⟩,
        ⟨some 11, .len (.t 10), none⟩,
        ⟨some 12, .bin .lss (.t 9) (.t 11), none⟩,
        ⟨some 13, .mv (.t 12), none⟩,
        ⟨some 14, .mv (.t 7), some (13, false)⟩,
        ⟨some 15, .mv (.t 1), some (13, false)⟩,
        ⟨some 16, .len (.t 15), some (13, false)⟩,
        ⟨some 17, .bin .lss (.t 14) (.t 16), some (13, false)⟩,
        ⟨some 18, .pick (.t 13) (.c (.d (.bool true))) (.t 17), none⟩,
        ⟨some 19, .mv (.t 18), none⟩,
        ⟨some 20, .mv (.t 6), some (19, false)⟩,
        ⟨some 21, .bin .gtr (.t 20) (.c (.d (.int .u32 0))), some (19, false)⟩,
        ⟨some 22, .pick (.t 19) (.c (.d (.bool true))) (.t 21), none⟩] [0, 1, 5, 6, 7, 22])
    (.cond (.t 22) .skip
     (.exit 0)))
   (.seq (.block 1 (.seq (.reg [⟨some 25, .mv (.t 6), none⟩,
          ⟨some 8, .mv (.t 25), none⟩] [0, 1, 5, 7, 8])
      (.seq (.seq (.reg [⟨some 26, .mv (.t 7), none⟩,
            ⟨some 27, .mv (.t 0), none⟩,
            ⟨some 28, .len (.t 27), none⟩,
            ⟨some 29, .bin .lss (.t 26) (.t 28), none⟩] [0, 1, 5, 7, 8, 29])
        (.cond (.t 29) (.reg [⟨some 30, .mv (.t 8), none⟩,
             ⟨some 31, .mv (.t 0), none⟩,
             ⟨some 32, .mv (.t 7), none⟩,
             ⟨some 33, .ix (.t 31) (.t 32) 1, none⟩,
             ⟨some 34, .ld (.t 33) none, none⟩,
             ⟨some 35, .bin .add (.t 30) (.t 34), none⟩,
             ⟨some 8, .mv (.t 35), none⟩] [0, 1, 5, 7, 8])
         .skip))
       (.seq (.seq (.reg [⟨some 36, .mv (.t 7), none⟩,
             ⟨some 37, .mv (.t 1), none⟩,
             ⟨some 38, .len (.t 37), none⟩,
             ⟨some 39, .bin .lss (.t 36) (.t 38), none⟩] [0, 1, 5, 7, 8, 39])
         (.cond (.t 39) (.reg [⟨some 40, .mv (.t 8), none⟩,
              ⟨some 41, .mv (.t 1), none⟩,
              ⟨some 42, .mv (.t 7), none⟩,
              ⟨some 43, .ix (.t 41) (.t 42) 1, none⟩,
              ⟨some 44, .ld (.t 43) none, none⟩,
              ⟨some 45, .bin .add (.t 40) (.t 44), none⟩,
              ⟨some 8, .mv (.t 45), none⟩] [0, 1, 5, 7, 8])
          .skip))
        (.seq (.reg [⟨some 46, .mv (.t 8), none⟩,
             ⟨some 47, .bin .quo (.t 46) (.c (.d (.int .u32 1000000000))), none⟩,
             ⟨some 6, .mv (.t 47), none⟩] [0, 1, 5, 6, 7, 8])
         (.reg [⟨some 48, .mv (.t 5), none⟩,
             ⟨some 49, .mv (.t 8), none⟩,
             ⟨some 50, .bin .rem (.t 49) (.c (.d (.int .u32 1000000000))), none⟩,
             ⟨some 51, .bsl 1 1 [(.d (.int .u32 0))] [(0, 1, (.t 50))], none⟩,
             ⟨some 52, .app 117 1 4 (.t 48) (.t 51), none⟩,
             ⟨some 5, .mv (.t 52), none⟩] [0, 1, 5, 6, 7]))))))
    (.reg [⟨some 23, .mv (.t 7), none⟩,
        ⟨some 24, .bin .add (.t 23) (.c (.d (.int .i64 1))), none⟩,
        ⟨some 7, .mv (.t 24), none⟩] [0, 1, 5, 6, 7])))

def c_r1_natAdd : C := (.seq (.reg [⟨some 4, .mv (.c .nils), none⟩] [0, 1])
   (.seq (.reg [⟨some 5, .mv (.c .nils), none⟩] [0, 1, 5])
    (.seq (.reg [⟨some 6, .mv (.c (.d (.int .u32 0))), none⟩] [0, 1, 5, 6])
     (.seq (.seq (.reg [⟨some 7, .mv (.c (.d (.int .i64 0))), none⟩] [0, 1, 5, 6, 7])
       (.block 0 (.loop c_r1_natAdd_L0)))
      (.seq (.reg [⟨some 53, .mv (.t 5), none⟩,
           ⟨some 4, .mv (.t 53), none⟩] [4])
       .ret)))))

def t_r1_natAdd : List (List Nat × PT) := [([0, 1], .done), ([0, 1, 5], .done), ([0, 1, 5, 6], .done), ([0, 1, 5, 6, 7], .done), ([0, 1, 5, 6, 7, 22], .done), ([0, 1, 5, 7, 8], .done), ([0, 1, 5, 7, 8, 29], .done), ([0, 1, 5, 7, 8], .done), ([0, 1, 5, 7, 8, 39], .done), ([0, 1, 5, 7, 8], .done), ([0, 1, 5, 6, 7, 8], .done), ([0, 1, 5, 6, 7], .done), ([0, 1, 5, 6, 7], .done), ([4], .done)]

noncomputable def x_r1_natAdd : Cx := ⟨Tryd.prog, 95, Tryd.f95, 54, [], [], [.t 4]⟩
theorem g_r1_natAdd : Good x_r1_natAdd := ⟨Tryd.func95, by kernel_rfl⟩
theorem rs_r1_natAdd : x_r1_natAdd.rs = [.t 4] := rfl
theorem k_r1_natAdd : compC Tryd.prog 54 [] [] (Tryd.f95.body.getD .skip) t_r1_natAdd = some (c_r1_natAdd, []) := by kernel_rfl
theorem b_r1_natAdd : Tryd.f95.body = some (Tryd.f95.body.getD .skip) := by kernel_rfl
theorem i_r1_natAdd {args : List AV} {σ : Heap} {K : AV → Heap → Prop} (hl : args.length ≤ 54) (h : Run x_r1_natAdd K [.code c_r1_natAdd] (argF args) E σ) : ACalls Tryd.prog 95 args σ K :=
  acalls_of (cx := x_r1_natAdd) g_r1_natAdd b_r1_natAdd Tryd.ntmps95 hl (compC_rc x_r1_natAdd _ _ _ _ k_r1_natAdd) h

/-! ### amortcost/amortcostref1.natCmp -/
/- slots of c_r1_natCmp_L0 : [0, 1, 5] -/
def c_r1_natCmp_L0 : C := (.seq (.seq (.reg [⟨some 19, .mv (.t 5), none⟩,
        ⟨some 20, .bin .geq (.t 19) (.c (.d (.int .i64 0))), none⟩] [0, 1, 5, 20])
    (.cond (.t 20) .skip
     (.exit 0)))
   (.seq (.block 1 (.seq (.seq (.reg [⟨some 23, .mv (.t 0), none⟩,
           ⟨some 24, .mv (.t 5), none⟩,
           ⟨some 25, .ix (.t 23) (.t 24) 1, none⟩,
           ⟨some 26, .ld (.t 25) none, none⟩,
           ⟨some 27, .mv (.t 1), none⟩,
           ⟨some 28, .mv (.t 5), none⟩,
           ⟨some 29, .ix (.t 27) (.t 28) 1, none⟩,
           ⟨some 30, .ld (.t 29) none, none⟩,
           ⟨some 31, .bin .lss (.t 26) (.t 30), none⟩] [0, 1, 5, 31])
       (.cond (.t 31) (.seq (.reg [⟨some 4, .mv (.c (.d (.int .i64 (-1)))), none⟩] [4])
         .ret)
        .skip))
      (.seq (.reg [⟨some 32, .mv (.t 0), none⟩,
           ⟨some 33, .mv (.t 5), none⟩,
           ⟨some 34, .ix (.t 32) (.t 33) 1, none⟩,
           ⟨some 35, .ld (.t 34) none, none⟩,
           ⟨some 36, .mv (.t 1), none⟩,
           ⟨some 37, .mv (.t 5), none⟩,
           ⟨some 38, .ix (.t 36) (.t 37) 1, none⟩,
           ⟨some 39, .ld (.t 38) none, none⟩,
           ⟨some 40, .bin .gtr (.t 35) (.t 39), none⟩] [0, 1, 5, 40])
       (.cond (.t 40) (.seq (.reg [⟨some 4, .mv (.c (.d (.int .i64 1))), none⟩] [4])
         .ret)
        .skip))))
    (.reg [⟨some 21, .mv (.t 5), none⟩,
        ⟨some 22, .bin .sub (.t 21) (.c (.d (.int .i64 1))), none⟩,
        ⟨some 5, .mv (.t 22), none⟩] [0, 1, 5])))

def c_r1_natCmp : C := (.seq (.reg [⟨some 4, .mv (.c (.d (.int .i64 0))), none⟩] [0, 1])
   (.seq (.seq (.reg [⟨some 6, .mv (.t 0), none⟩,
         ⟨some 7, .len (.t 6), none⟩,
         ⟨some 8, .mv (.t 1), none⟩,
         ⟨some 9, .len (.t 8), none⟩,
         ⟨some 10, .bin .neq (.t 7) (.t 9), none⟩] [0, 1, 10])
     (.cond (.t 10) (.seq (.seq (.reg [⟨some 11, .mv (.t 0), none⟩,
            ⟨some 12, .len (.t 11), none⟩,
            ⟨some 13, .mv (.t 1), none⟩,
            ⟨some 14, .len (.t 13), none⟩,
            ⟨some 15, .bin .lss (.t 12) (.t 14), none⟩] [15])
        (.cond (.t 15) (.seq (.reg [⟨some 4, .mv (.c (.d (.int .i64 (-1)))), none⟩] [4])
          .ret)
         .skip))
       (.seq (.reg [⟨some 4, .mv (.c (.d (.int .i64 1))), none⟩] [4])
        .ret))
      .skip))
    (.seq (.seq (.reg [⟨some 16, .mv (.t 0), none⟩,
          ⟨some 17, .len (.t 16), none⟩,
          ⟨some 18, .bin .sub (.t 17) (.c (.d (.int .i64 1))), none⟩,
          ⟨some 5, .mv (.t 18), none⟩] [0, 1, 5])
      (.block 0 (.loop c_r1_natCmp_L0)))
     (.seq (.reg [⟨some 4, .mv (.c (.d (.int .i64 0))), none⟩] [4])
      .ret))))

def t_r1_natCmp : List (List Nat × PT) := [([0, 1], .done), ([0, 1, 10], .done), ([15], .done), ([4], .done), ([4], .done), ([0, 1, 5], .done), ([0, 1, 5, 20], .done), ([0, 1, 5, 31], .done), ([4], .done), ([0, 1, 5, 40], .done), ([4], .done), ([0, 1, 5], .done), ([4], .done)]

noncomputable def x_r1_natCmp : Cx := ⟨Tryd.prog, 96, Tryd.f96, 41, [], [], [.t 4]⟩
theorem g_r1_natCmp : Good x_r1_natCmp := ⟨Tryd.func96, by kernel_rfl⟩
theorem rs_r1_natCmp : x_r1_natCmp.rs = [.t 4] := rfl
theorem k_r1_natCmp : compC Tryd.prog 41 [] [] (Tryd.f96.body.getD .skip) t_r1_natCmp = some (c_r1_natCmp, []) := by kernel_rfl
theorem b_r1_natCmp : Tryd.f96.body = some (Tryd.f96.body.getD .skip) := by kernel_rfl
theorem i_r1_natCmp {args : List AV} {σ : Heap} {K : AV → Heap → Prop} (hl : args.length ≤ 41) (h : Run x_r1_natCmp K [.code c_r1_natCmp] (argF args) E σ) : ACalls Tryd.prog 96 args σ K :=
  acalls_of (cx := x_r1_natCmp) g_r1_natCmp b_r1_natCmp Tryd.ntmps96 hl (compC_rc x_r1_natCmp _ _ _ _ k_r1_natCmp) h

/-! ### amortcost/amortcostref1.natSub -/
/- slots of c_r1_natSub_L0 : [0, 1, 5, 6, 7] -/
def c_r1_natSub_L0 : C := (.seq (.seq (.reg [⟨some 12, .mv (.t 7), none⟩,
        ⟨some 13, .mv (.t 0), none⟩,
        ⟨some 14, .len (.t 13), none⟩,
        ⟨some 15, .bin .lss (.t 12) (.t 14), none⟩] [0, 1, 5, 6, 7, 15])
    (.cond (.t 15) .skip
     (.exit 0)))
   (.seq (.block 1 (.seq (.reg [⟨some 18, .mv (.t 6), none⟩,
          ⟨some 8, .mv (.t 18), none⟩] [0, 1, 5, 7, 8])
      (.seq (.seq (.reg [⟨some 19, .mv (.t 7), none⟩,
            ⟨some 20, .mv (.t 1), none⟩,
            ⟨some 21, .len (.t 20), none⟩,
            ⟨some 22, .bin .lss (.t 19) (.t 21), none⟩] [0, 1, 5, 7, 8, 22])
        (.cond (.t 22) (.reg [⟨some 23, .mv (.t 8), none⟩,
             ⟨some 24, .mv (.t 1), none⟩,
             ⟨some 25, .mv (.t 7), none⟩,
             ⟨some 26, .ix (.t 24) (.t 25) 1, none⟩,
             ⟨some 27, .ld (.t 26) none, none⟩,
             ⟨some 28, .bin .add (.t 23) (.t 27), none⟩,
             ⟨some 8, .mv (.t 28), none⟩] [0, 1, 5, 7, 8])
         .skip))
       (.seq (.reg [⟨some 29, .mv (.t 0), none⟩,
            ⟨some 30, .mv (.t 7), none⟩,
            ⟨some 31, .ix (.t 29) (.t 30) 1, none⟩,
            ⟨some 32, .ld (.t 31) none, none⟩,
            ⟨some 33, .mv (.t 8), none⟩,
            ⟨some 34, .bin .geq (.t 32) (.t 33), none⟩] [0, 1, 5, 7, 8, 34])
        (.cond (.t 34) (.reg [⟨some 35, .mv (.t 5), none⟩,
             ⟨some 36, .mv (.t 7), none⟩,
             ⟨some 37, .mv (.t 0), none⟩,
             ⟨some 38, .mv (.t 7), none⟩,
             ⟨some 39, .ix (.t 37) (.t 38) 1, none⟩,
             ⟨some 40, .ld (.t 39) none, none⟩,
             ⟨some 41, .mv (.t 8), none⟩,
             ⟨some 42, .bin .sub (.t 40) (.t 41), none⟩,
             ⟨some 43, .ix (.t 35) (.t 36) 1, none⟩,
             ⟨none, .st (.t 43) (.t 42) 1, none⟩,
             ⟨some 6, .mv (.c (.d (.int .u32 0))), none⟩] [0, 1, 5, 6, 7])
         (.reg [⟨some 44, .mv (.t 5), none⟩,
             ⟨some 45, .mv (.t 7), none⟩,
             ⟨some 46, .mv (.t 0), none⟩,
             ⟨some 47, .mv (.t 7), none⟩,
             ⟨some 48, .ix (.t 46) (.t 47) 1, none⟩,
             ⟨some 49, .ld (.t 48) none, none⟩,
             ⟨some 50, .bin .add (.t 49) (.c (.d (.int .u32 1000000000))), none⟩,
             ⟨some 51, .mv (.t 8), none⟩,
             ⟨some 52, .bin .sub (.t 50) (.t 51), none⟩,
             ⟨some 53, .ix (.t 44) (.t 45) 1, none⟩,
             ⟨none, .st (.t 53) (.t 52) 1, none⟩,
             ⟨some 6, .mv (.c (.d (.int .u32 1))), none⟩] [0, 1, 5, 6, 7]))))))
    (.reg [⟨some 16, .mv (.t 7), none⟩,
        ⟨some 17, .bin .add (.t 16) (.c (.d (.int .i64 1))), none⟩,
        ⟨some 7, .mv (.t 17), none⟩] [0, 1, 5, 6, 7])))

def c_r1_natSub : C := (.seq (.reg [⟨some 4, .mv (.c .nils), none⟩] [0, 1])
   (.seq (.reg [⟨some 9, .mv (.t 0), none⟩,
        ⟨some 10, .len (.t 9), none⟩,
        ⟨some 11, .msl 117 1 4 [(.d (.int .u32 0))] (.t 10) (.t 10), none⟩,
        ⟨some 5, .mv (.t 11), none⟩] [0, 1, 5])
    (.seq (.reg [⟨some 6, .mv (.c (.d (.int .u32 0))), none⟩] [0, 1, 5, 6])
     (.seq (.seq (.reg [⟨some 7, .mv (.c (.d (.int .i64 0))), none⟩] [0, 1, 5, 6, 7])
       (.block 0 (.loop c_r1_natSub_L0)))
      (.seq (.reg [⟨some 54, .mv (.t 5), none⟩,
           ⟨some 55, .call 114 [(.t 54)], none⟩,
           ⟨some 4, .mv (.t 55), none⟩] [4])
       .ret)))))

def t_r1_natSub : List (List Nat × PT) := [([0, 1], .done), ([0, 1, 5], .done), ([0, 1, 5, 6], .done), ([0, 1, 5, 6, 7], .done), ([0, 1, 5, 6, 7, 15], .done), ([0, 1, 5, 7, 8], .done), ([0, 1, 5, 7, 8, 22], .done), ([0, 1, 5, 7, 8], .done), ([0, 1, 5, 7, 8, 34], .done), ([0, 1, 5, 6, 7], .done), ([0, 1, 5, 6, 7], .done), ([0, 1, 5, 6, 7], .done), ([4], .done)]

noncomputable def x_r1_natSub : Cx := ⟨Tryd.prog, 97, Tryd.f97, 56, [], [], [.t 4]⟩
theorem g_r1_natSub : Good x_r1_natSub := ⟨Tryd.func97, by kernel_rfl⟩
theorem rs_r1_natSub : x_r1_natSub.rs = [.t 4] := rfl
theorem k_r1_natSub : compC Tryd.prog 56 [] [] (Tryd.f97.body.getD .skip) t_r1_natSub = some (c_r1_natSub, []) := by kernel_rfl
theorem b_r1_natSub : Tryd.f97.body = some (Tryd.f97.body.getD .skip) := by kernel_rfl
theorem i_r1_natSub {args : List AV} {σ : Heap} {K : AV → Heap → Prop} (hl : args.length ≤ 56) (h : Run x_r1_natSub K [.code c_r1_natSub] (argF args) E σ) : ACalls Tryd.prog 97 args σ K :=
  acalls_of (cx := x_r1_natSub) g_r1_natSub b_r1_natSub Tryd.ntmps97 hl (compC_rc x_r1_natSub _ _ _ _ k_r1_natSub) h

/-! ### slices.IndexFunc(()amortcost/api.Lin,amortcost/api.Lin) -/
/- slots of c_slices_IndexFunc_api_Lin_L0 : [0, 1, 7, 8] -/
def c_slices_IndexFunc_api_Lin_L0 : C := (.seq (.reg [⟨some 9, .bin .lss (.t 8) (.t 7), none⟩] [0, 1, 7, 8, 9])
   (.seq (.cond (.t 9) .skip
     (.exit 0))
    (.seq (.block 1 (.seq (.reg [⟨some 10, .mv (.t 8), none⟩,
           ⟨some 5, .mv (.t 10), none⟩] [0, 1, 5, 7, 8])
       (.seq (.reg [⟨some 11, .mv (.t 1), none⟩,
            ⟨some 12, .mv (.t 0), none⟩,
            ⟨some 13, .mv (.t 5), none⟩,
            ⟨some 14, .ix (.t 12) (.t 13) 2, none⟩,
            ⟨some 15, .ld (.t 14) (some 2), none⟩,
            ⟨some 16, .callv (.t 11) [(.t 15)], none⟩] [0, 1, 5, 7, 8, 16])
        (.cond (.t 16) (.seq (.reg [⟨some 17, .mv (.t 5), none⟩,
              ⟨some 4, .mv (.t 17), none⟩] [4])
          .ret)
         .skip))))
     (.reg [⟨some 18, .bin .add (.t 8) (.c (.d (.int .i64 1))), none⟩,
         ⟨some 8, .mv (.t 18), none⟩] [0, 1, 7, 8]))))

def c_slices_IndexFunc_api_Lin : C := (.seq (.reg [⟨some 4, .mv (.c (.d (.int .i64 0))), none⟩] [0, 1])
   (.seq (.seq (.reg [⟨some 6, .mv (.t 0), none⟩,
         ⟨some 7, .len (.t 6), none⟩,
         ⟨some 8, .mv (.c (.d (.int .i64 0))), none⟩] [0, 1, 7, 8])
     (.block 0 (.loop c_slices_IndexFunc_api_Lin_L0)))
    (.seq (.reg [⟨some 4, .mv (.c (.d (.int .i64 (-1)))), none⟩] [4])
     .ret)))

def t_slices_IndexFunc_api_Lin : List (List Nat × PT) := [([0, 1], .done), ([0, 1, 7, 8], .done), ([0, 1, 7, 8, 9], .done), ([0, 1, 5, 7, 8], .done), ([0, 1, 5, 7, 8, 16], .done), ([4], .done), ([0, 1, 7, 8], .done), ([4], .done)]

noncomputable def x_slices_IndexFunc_api_Lin : Cx := ⟨Tryd.prog, 98, Tryd.f98, 19, [], [], [.t 4]⟩
theorem g_slices_IndexFunc_api_Lin : Good x_slices_IndexFunc_api_Lin := ⟨Tryd.func98, by kernel_rfl⟩
theorem rs_slices_IndexFunc_api_Lin : x_slices_IndexFunc_api_Lin.rs = [.t 4] := rfl
theorem k_slices_IndexFunc_api_Lin : compC Tryd.prog 19 [] [] (Tryd.f98.body.getD .skip) t_slices_IndexFunc_api_Lin = some (c_slices_IndexFunc_api_Lin, []) := by kernel_rfl
theorem b_slices_IndexFunc_api_Lin : Tryd.f98.body = some (Tryd.f98.body.getD .skip) := by kernel_rfl
theorem i_slices_IndexFunc_api_Lin {args : List AV} {σ : Heap} {K : AV → Heap → Prop} (hl : args.length ≤ 19) (h : Run x_slices_IndexFunc_api_Lin K [.code c_slices_IndexFunc_api_Lin] (argF args) E σ) : ACalls Tryd.prog 98 args σ K :=
  acalls_of (cx := x_slices_IndexFunc_api_Lin) g_slices_IndexFunc_api_Lin b_slices_IndexFunc_api_Lin Tryd.ntmps98 hl (compC_rc x_slices_IndexFunc_api_Lin _ _ _ _ k_slices_IndexFunc_api_Lin) h

/-! ### slices.Clone(()int,int) -/
def c_slices_Clone_int : C := (.seq (.reg [⟨some 2, .mv (.c .nils), none⟩] [0])
   (.seq (.seq (.reg [⟨some 3, .mv (.t 0), none⟩,
         ⟨some 4, .ex (.snil false) [(.t 3)], none⟩] [0, 4])
     (.cond (.t 4) (.seq (.reg [⟨some 2, .mv (.c .nils), none⟩] [2])
       .ret)
      .skip))
    (.seq (.reg [⟨some 5, .bslm 3 1 0 [] [], none⟩,
         ⟨some 6, .mv (.t 0), none⟩,
         ⟨some 7, .appm 3 1 8 (.t 5) (.t 6), none⟩,
         ⟨some 2, .mv (.t 7), none⟩] [2])
     .ret)))

def t_slices_Clone_int : List (List Nat × PT) := [([0], .done), ([0, 4], .done), ([2], .done), ([2], .done)]

noncomputable def x_slices_Clone_int : Cx := ⟨Tryd.prog, 99, Tryd.f99, 8, [5, 7], [], [.t 2]⟩
theorem g_slices_Clone_int : Good x_slices_Clone_int := ⟨Tryd.func99, by kernel_rfl⟩
theorem rs_slices_Clone_int : x_slices_Clone_int.rs = [.t 2] := rfl
theorem k_slices_Clone_int : compC Tryd.prog 8 [5, 7] [] (Tryd.f99.body.getD .skip) t_slices_Clone_int = some (c_slices_Clone_int, []) := by kernel_rfl
theorem b_slices_Clone_int : Tryd.f99.body = some (Tryd.f99.body.getD .skip) := by kernel_rfl
theorem i_slices_Clone_int {args : List AV} {σ : Heap} {K : AV → Heap → Prop} (hl : args.length ≤ 8) (h : Run x_slices_Clone_int K [.code c_slices_Clone_int] (argF args) E σ) : ACalls Tryd.prog 99 args σ K :=
  acalls_of (cx := x_slices_Clone_int) g_slices_Clone_int b_slices_Clone_int Tryd.ntmps99 hl (compC_rc x_slices_Clone_int _ _ _ _ k_slices_Clone_int) h

/-! ### slices.Compact(()int,int) -/
/- slots of c_slices_Compact_int_L0 : [0, 3, 4, 5] -/
def c_slices_Compact_int_L0 : C := (.seq (.seq (.reg [⟨some 29, .mv (.t 5), none⟩,
        ⟨some 30, .mv (.t 4), none⟩,
        ⟨some 31, .len (.t 30), none⟩,
        ⟨some 32, .bin .lss (.t 29) (.t 31), none⟩] [0, 3, 4, 5, 32])
    (.cond (.t 32) .skip
     (.exit 2)))
   (.seq (.block 3 (.seq (.reg [⟨some 35, .mv (.t 4), none⟩,
          ⟨some 36, .mv (.t 5), none⟩,
          ⟨some 37, .ix (.t 35) (.t 36) 1, none⟩,
          ⟨some 38, .ld (.t 37) none, none⟩,
          ⟨some 39, .mv (.t 4), none⟩,
          ⟨some 40, .mv (.t 5), none⟩,
          ⟨some 41, .bin .sub (.t 40) (.c (.d (.int .i64 1))), none⟩,
          ⟨some 42, .ix (.t 39) (.t 41) 1, none⟩,
          ⟨some 43, .ld (.t 42) none, none⟩,
          ⟨some 44, .bin .neq (.t 38) (.t 43), none⟩] [0, 3, 4, 5, 44])
      (.cond (.t 44) (.seq (.reg [⟨some 45, .mv (.t 0), none⟩,
            ⟨some 46, .mv (.t 3), none⟩,
            ⟨some 47, .mv (.t 4), none⟩,
            ⟨some 48, .mv (.t 5), none⟩,
            ⟨some 49, .ix (.t 47) (.t 48) 1, none⟩,
            ⟨some 50, .ld (.t 49) none, none⟩,
            ⟨some 51, .ix (.t 45) (.t 46) 1, none⟩,
            ⟨none, .st (.t 51) (.t 50) 1, none⟩] [0, 3, 4, 5])
        (.reg [⟨some 52, .mv (.t 3), none⟩,
            ⟨some 53, .bin .add (.t 52) (.c (.d (.int .i64 1))), none⟩,
            ⟨some 3, .mv (.t 53), none⟩] [0, 3, 4, 5]))
       .skip)))
    (.reg [⟨some 33, .mv (.t 5), none⟩,
        ⟨some 34, .bin .add (.t 33) (.c (.d (.int .i64 1))), none⟩,
        ⟨some 5, .mv (.t 34), none⟩] [0, 3, 4, 5])))

/- slots of c_slices_Compact_int_L1 : [0, 3] -/
def c_slices_Compact_int_L1 : C := (.seq (.seq (.reg [⟨some 10, .mv (.t 3), none⟩,
        ⟨some 11, .mv (.t 0), none⟩,
        ⟨some 12, .len (.t 11), none⟩,
        ⟨some 13, .bin .lss (.t 10) (.t 12), none⟩] [0, 3, 13])
    (.cond (.t 13) .skip
     (.exit 0)))
   (.seq (.block 1 (.seq (.reg [⟨some 16, .mv (.t 0), none⟩,
          ⟨some 17, .mv (.t 3), none⟩,
          ⟨some 18, .ix (.t 16) (.t 17) 1, none⟩,
          ⟨some 19, .ld (.t 18) none, none⟩,
          ⟨some 20, .mv (.t 0), none⟩,
          ⟨some 21, .mv (.t 3), none⟩,
          ⟨some 22, .bin .sub (.t 21) (.c (.d (.int .i64 1))), none⟩,
          ⟨some 23, .ix (.t 20) (.t 22) 1, none⟩,
          ⟨some 24, .ld (.t 23) none, none⟩,
          ⟨some 25, .bin .eql (.t 19) (.t 24), none⟩] [0, 3, 25])
      (.cond (.t 25) (.seq (.reg [⟨some 26, .mv (.t 0), none⟩,
            ⟨some 27, .mv (.t 3), none⟩,
            ⟨some 28, .sls (.t 26) (some (.t 27)) none none 1, none⟩,
            ⟨some 4, .mv (.t 28), none⟩] [0, 3, 4])
        (.seq (.seq (.reg [⟨some 5, .mv (.c (.d (.int .i64 1))), none⟩] [0, 3, 4, 5])
          (.block 2 (.loop c_slices_Compact_int_L0)))
         (.seq .bad
          (.seq (.reg [⟨some 57, .mv (.t 0), none⟩,
               ⟨some 58, .mv (.t 3), none⟩,
               ⟨some 59, .sls (.t 57) none (some (.t 58)) none 1, none⟩,
               ⟨some 2, .mv (.t 59), none⟩] [2])
           .ret))))
       .skip)))
    (.reg [⟨some 14, .mv (.t 3), none⟩,
        ⟨some 15, .bin .add (.t 14) (.c (.d (.int .i64 1))), none⟩,
        ⟨some 3, .mv (.t 15), none⟩] [0, 3])))

def c_slices_Compact_int : C := (.seq (.reg [⟨some 2, .mv (.c .nils), none⟩] [0])
   (.seq (.seq (.reg [⟨some 6, .mv (.t 0), none⟩,
         ⟨some 7, .len (.t 6), none⟩,
         ⟨some 8, .bin .lss (.t 7) (.c (.d (.int .i64 2))), none⟩] [0, 8])
     (.cond (.t 8) (.seq (.reg [⟨some 9, .mv (.t 0), none⟩,
           ⟨some 2, .mv (.t 9), none⟩] [2])
       .ret)
      .skip))
    (.seq (.seq (.reg [⟨some 3, .mv (.c (.d (.int .i64 1))), none⟩] [0, 3])
      (.block 0 (.loop c_slices_Compact_int_L1)))
     (.seq (.reg [⟨some 60, .mv (.t 0), none⟩,
          ⟨some 2, .mv (.t 60), none⟩] [2])
      .ret))))

def t_slices_Compact_int : List (List Nat × PT) := [([0], .done), ([0, 8], .done), ([2], .done), ([0, 3], .done), ([0, 3, 13], .done), ([0, 3, 25], .done), ([0, 3, 4], .done), ([0, 3, 4, 5], .done), ([0, 3, 4, 5, 32], .done), ([0, 3, 4, 5, 44], .done), ([0, 3, 4, 5], .done), ([0, 3, 4, 5], .done), ([0, 3, 4, 5], .done), ([], .done), ([2], .done), ([0, 3], .done), ([2], .done)]

noncomputable def x_slices_Compact_int : Cx := ⟨Tryd.prog, 101, Tryd.f101, 61, [], [], [.t 2]⟩
theorem g_slices_Compact_int : Good x_slices_Compact_int := ⟨Tryd.func101, by kernel_rfl⟩
theorem rs_slices_Compact_int : x_slices_Compact_int.rs = [.t 2] := rfl
theorem k_slices_Compact_int : compC Tryd.prog 61 [] [] (Tryd.f101.body.getD .skip) t_slices_Compact_int = some (c_slices_Compact_int, []) := by kernel_rfl
theorem b_slices_Compact_int : Tryd.f101.body = some (Tryd.f101.body.getD .skip) := by kernel_rfl
theorem i_slices_Compact_int {args : List AV} {σ : Heap} {K : AV → Heap → Prop} (hl : args.length ≤ 61) (h : Run x_slices_Compact_int K [.code c_slices_Compact_int] (argF args) E σ) : ACalls Tryd.prog 101 args σ K :=
  acalls_of (cx := x_slices_Compact_int) g_slices_Compact_int b_slices_Compact_int Tryd.ntmps101 hl (compC_rc x_slices_Compact_int _ _ _ _ k_slices_Compact_int) h

/-! ### amortcost/amortcostref1.nat -/
/- slots of c_r1_nat_L0 : [0, 3, 4, 5] -/
def c_r1_nat_L0 : C := (.seq (.seq (.reg [⟨some 6, .mv (.t 5), none⟩,
        ⟨some 7, .mv (.t 0), none⟩,
        ⟨some 8, .len (.t 7), none⟩,
        ⟨some 9, .bin .lss (.t 6) (.t 8), none⟩] [0, 3, 4, 5, 9])
    (.cond (.t 9) .skip
     (.exit 0)))
   (.seq (.block 1 (.seq (.reg [⟨some 12, .mv (.t 4), none⟩,
          ⟨some 13, .mv (.t 0), none⟩,
          ⟨some 14, .mv (.t 5), none⟩,
          ⟨some 15, .ix (.t 13) (.t 14) 1, none⟩,
          ⟨some 16, .ld (.t 15) none, none⟩,
          ⟨some 17, .conv .u64 (.t 16), none⟩,
          ⟨some 18, .bin .add (.t 12) (.t 17), none⟩,
          ⟨some 4, .mv (.t 18), none⟩] [0, 3, 4, 5])
      (.seq (.reg [⟨some 19, .mv (.t 3), none⟩,
           ⟨some 20, .mv (.t 4), none⟩,
           ⟨some 21, .bin .rem (.t 20) (.c (.d (.int .u64 1000000000))), none⟩,
           ⟨some 22, .conv .u32 (.t 21), none⟩,
           ⟨some 23, .bsl 1 1 [(.d (.int .u32 0))] [(0, 1, (.t 22))], none⟩,
           ⟨some 24, .app 117 1 4 (.t 19) (.t 23), none⟩,
           ⟨some 3, .mv (.t 24), none⟩] [0, 3, 4, 5])
       (.reg [⟨some 25, .mv (.t 4), none⟩,
           ⟨some 26, .bin .quo (.t 25) (.c (.d (.int .u64 1000000000))), none⟩,
           ⟨some 4, .mv (.t 26), none⟩] [0, 3, 4, 5]))))
    (.reg [⟨some 10, .mv (.t 5), none⟩,
        ⟨some 11, .bin .add (.t 10) (.c (.d (.int .i64 1))), none⟩,
        ⟨some 5, .mv (.t 11), none⟩] [0, 3, 4, 5])))

def c_r1_nat : C := (.seq (.reg [⟨some 2, .mv (.c .nils), none⟩] [0])
   (.seq (.reg [⟨some 3, .mv (.c .nils), none⟩] [0, 3])
    (.seq (.reg [⟨some 4, .mv (.c (.d (.int .u64 0))), none⟩] [0, 3, 4])
     (.seq (.seq (.reg [⟨some 5, .mv (.c (.d (.int .i64 0))), none⟩] [0, 3, 4, 5])
       (.block 0 (.loop c_r1_nat_L0)))
      (.seq (.seq (.reg [⟨some 27, .mv (.t 4), none⟩,
            ⟨some 28, .bin .gtr (.t 27) (.c (.d (.int .u64 0))), none⟩] [3, 4, 28])
        (.cond (.t 28) (.reg [⟨some 29, .mv (.t 3), none⟩,
             ⟨some 30, .mv (.t 4), none⟩,
             ⟨some 31, .conv .u32 (.t 30), none⟩,
             ⟨some 32, .bsl 1 1 [(.d (.int .u32 0))] [(0, 1, (.t 31))], none⟩,
             ⟨some 33, .app 117 1 4 (.t 29) (.t 32), none⟩,
             ⟨some 3, .mv (.t 33), none⟩] [3])
         .skip))
       (.seq (.reg [⟨some 34, .mv (.t 3), none⟩,
            ⟨some 35, .call 114 [(.t 34)], none⟩,
            ⟨some 2, .mv (.t 35), none⟩] [2])
        .ret))))))

def t_r1_nat : List (List Nat × PT) := [([0], .done), ([0, 3], .done), ([0, 3, 4], .done), ([0, 3, 4, 5], .done), ([0, 3, 4, 5, 9], .done), ([0, 3, 4, 5], .done), ([0, 3, 4, 5], .done), ([0, 3, 4, 5], .done), ([0, 3, 4, 5], .done), ([3, 4, 28], .done), ([3], .done), ([2], .done)]

noncomputable def x_r1_nat : Cx := ⟨Tryd.prog, 111, Tryd.f111, 36, [], [], [.t 2]⟩
theorem g_r1_nat : Good x_r1_nat := ⟨Tryd.func111, by kernel_rfl⟩
theorem rs_r1_nat : x_r1_nat.rs = [.t 2] := rfl
theorem k_r1_nat : compC Tryd.prog 36 [] [] (Tryd.f111.body.getD .skip) t_r1_nat = some (c_r1_nat, []) := by kernel_rfl
theorem b_r1_nat : Tryd.f111.body = some (Tryd.f111.body.getD .skip) := by kernel_rfl
theorem i_r1_nat {args : List AV} {σ : Heap} {K : AV → Heap → Prop} (hl : args.length ≤ 36) (h : Run x_r1_nat K [.code c_r1_nat] (argF args) E σ) : ACalls Tryd.prog 111 args σ K :=
  acalls_of (cx := x_r1_nat) g_r1_nat b_r1_nat Tryd.ntmps111 hl (compC_rc x_r1_nat _ _ _ _ k_r1_nat) h

/-! ### amortcost/amortcostref1.natGcd -/
/- slots of c_r1_natGcd_L0 : [0, 1] -/
def c_r1_natGcd_L0 : C := (.seq (.seq (.reg [⟨some 7, .mv (.t 1), none⟩,
        ⟨some 8, .len (.t 7), none⟩,
        ⟨some 9, .bin .gtr (.t 8) (.c (.d (.int .i64 0))), none⟩] [0, 1, 9])
    (.cond (.t 9) .skip
     (.exit 0)))
   (.block 1 (.seq (.reg [⟨some 11, .mv (.t 0), none⟩,
         ⟨some 12, .mv (.t 1), none⟩,
         ⟨some 13, .call 113 [(.t 11), (.t 12)], none⟩,
         ⟨some 10, .mv (.t 13), none⟩,
         ⟨some 14, .ext (.t 10) 0, none⟩,
         ⟨some 15, .ext (.t 10) 1, none⟩,
         ⟨some 5, .mv (.t 14), none⟩,
         ⟨some 6, .mv (.t 15), none⟩] [1, 6])
     (.reg [⟨some 16, .mv (.t 1), none⟩,
         ⟨some 17, .mv (.t 6), none⟩,
         ⟨some 0, .mv (.t 16), none⟩,
         ⟨some 1, .mv (.t 17), none⟩] [0, 1]))))

def c_r1_natGcd : C := (.seq (.reg [⟨some 4, .mv (.c .nils), none⟩] [0, 1])
   (.seq (.block 0 (.loop c_r1_natGcd_L0))
    (.seq (.reg [⟨some 18, .mv (.t 0), none⟩,
         ⟨some 4, .mv (.t 18), none⟩] [4])
     .ret)))

def t_r1_natGcd : List (List Nat × PT) := [([0, 1], .done), ([0, 1, 9], .done), ([1, 6], .done), ([0, 1], .done), ([4], .done)]

noncomputable def x_r1_natGcd : Cx := ⟨Tryd.prog, 112, Tryd.f112, 19, [], [], [.t 4]⟩
theorem g_r1_natGcd : Good x_r1_natGcd := ⟨Tryd.func112, by kernel_rfl⟩
theorem rs_r1_natGcd : x_r1_natGcd.rs = [.t 4] := rfl
theorem k_r1_natGcd : compC Tryd.prog 19 [] [] (Tryd.f112.body.getD .skip) t_r1_natGcd = some (c_r1_natGcd, []) := by kernel_rfl
theorem b_r1_natGcd : Tryd.f112.body = some (Tryd.f112.body.getD .skip) := by kernel_rfl
theorem i_r1_natGcd {args : List AV} {σ : Heap} {K : AV → Heap → Prop} (hl : args.length ≤ 19) (h : Run x_r1_natGcd K [.code c_r1_natGcd] (argF args) E σ) : ACalls Tryd.prog 112 args σ K :=
  acalls_of (cx := x_r1_natGcd) g_r1_natGcd b_r1_natGcd Tryd.ntmps112 hl (compC_rc x_r1_natGcd _ _ _ _ k_r1_natGcd) h

/-! ### amortcost/amortcostref1.natDiv -/
/- slots of c_r1_natDiv_L0 : [0, 1, 8, 9, 10, 11] -/
def c_r1_natDiv_L0 : C := (.seq (.seq (.reg [⟨some 54, .mv (.t 11), none⟩,
        ⟨some 55, .bin .gtr (.t 54) (.c (.d (.int .u64 0))), none⟩,
        ⟨some 56, .mv (.t 55), none⟩,
        ⟨some 57, .mv (.t 1), some (56, true)⟩,
        ⟨some 58, .mv (.t 11), some (56, true)⟩,
        ⟨some 59, .call 92 [(.t 58)], some (56, true)⟩,
        ⟨some 60, .call 94 [(.t 57), (.t 59)], some (56, true)⟩,
        ⟨some 61, .mv (.t 9), some (56, true)⟩,
        ⟨some 62, .call 96 [(.t 60), (.t 61)], some (56, true)⟩,
        ⟨some 63, .bin .gtr (.t 62) (.c (.d (.int .i64 0))), some (56, true)⟩,
        ⟨some 64, .pick (.t 56) (.t 63) (.c (.d (.bool false))), none⟩] [0, 1, 8, 9, 10, 11, 64])
    (.cond (.t 64) .skip
     (.exit 2)))
   (.block 3 (.reg [⟨some 65, .mv (.t 11), none⟩,
        ⟨some 66, .bin .sub (.t 65) (.c (.d (.int .u64 1))), none⟩,
        ⟨some 11, .mv (.t 66), none⟩] [0, 1, 8, 9, 10, 11])))

/- slots of c_r1_natDiv_L1 : [0, 1, 8, 9, 10, 11] -/
def c_r1_natDiv_L1 : C := (.seq (.seq (.reg [⟨some 73, .mv (.t 9), none⟩,
        ⟨some 74, .mv (.t 1), none⟩,
        ⟨some 75, .call 96 [(.t 73), (.t 74)], none⟩,
        ⟨some 76, .bin .geq (.t 75) (.c (.d (.int .i64 0))), none⟩] [0, 1, 8, 9, 10, 11, 76])
    (.cond (.t 76) .skip
     (.exit 4)))
   (.block 5 (.seq (.reg [⟨some 77, .mv (.t 9), none⟩,
         ⟨some 78, .mv (.t 1), none⟩,
         ⟨some 79, .call 97 [(.t 77), (.t 78)], none⟩,
         ⟨some 9, .mv (.t 79), none⟩] [0, 1, 8, 9, 10, 11])
     (.reg [⟨some 80, .mv (.t 11), none⟩,
         ⟨some 81, .bin .add (.t 80) (.c (.d (.int .u64 1))), none⟩,
         ⟨some 11, .mv (.t 81), none⟩] [0, 1, 8, 9, 10, 11]))))

/- slots of c_r1_natDiv_L2 : [0, 1, 8, 9, 10] -/
def c_r1_natDiv_L2 : C := (.seq (.seq (.reg [⟨some 39, .mv (.t 10), none⟩,
        ⟨some 40, .bin .geq (.t 39) (.c (.d (.int .i64 0))), none⟩] [0, 1, 8, 9, 10, 40])
    (.cond (.t 40) .skip
     (.exit 0)))
   (.seq (.block 1 (.seq (.reg [⟨some 43, .mv (.t 0), none⟩,
          ⟨some 44, .mv (.t 10), none⟩,
          ⟨some 45, .ix (.t 43) (.t 44) 1, none⟩,
          ⟨some 46, .ld (.t 45) none, none⟩,
          ⟨some 47, .bsl 1 1 [(.d (.int .u32 0))] [(0, 1, (.t 46))], none⟩,
          ⟨some 48, .mv (.t 9), none⟩,
          ⟨some 49, .app 117 1 4 (.t 47) (.t 48), none⟩,
          ⟨some 50, .call 114 [(.t 49)], none⟩,
          ⟨some 9, .mv (.t 50), none⟩] [0, 1, 8, 9, 10])
      (.seq (.reg [⟨some 51, .mv (.t 9), none⟩,
           ⟨some 52, .mv (.t 1), none⟩,
           ⟨some 53, .call 132 [(.t 51), (.t 52)], none⟩,
           ⟨some 11, .mv (.t 53), none⟩] [0, 1, 8, 9, 10, 11])
       (.seq (.block 2 (.loop c_r1_natDiv_L0))
        (.seq (.reg [⟨some 67, .mv (.t 9), none⟩,
             ⟨some 68, .mv (.t 1), none⟩,
             ⟨some 69, .mv (.t 11), none⟩,
             ⟨some 70, .call 92 [(.t 69)], none⟩,
             ⟨some 71, .call 94 [(.t 68), (.t 70)], none⟩,
             ⟨some 72, .call 97 [(.t 67), (.t 71)], none⟩,
             ⟨some 9, .mv (.t 72), none⟩] [0, 1, 8, 9, 10, 11])
         (.seq (.block 4 (.loop c_r1_natDiv_L1))
          (.reg [⟨some 82, .mv (.t 8), none⟩,
              ⟨some 83, .mv (.t 10), none⟩,
              ⟨some 84, .mv (.t 11), none⟩,
              ⟨some 85, .conv .u32 (.t 84), none⟩,
              ⟨some 86, .ix (.t 82) (.t 83) 1, none⟩,
              ⟨none, .st (.t 86) (.t 85) 1, none⟩] [0, 1, 8, 9, 10])))))))
    (.reg [⟨some 41, .mv (.t 10), none⟩,
        ⟨some 42, .bin .sub (.t 41) (.c (.d (.int .i64 1))), none⟩,
        ⟨some 10, .mv (.t 42), none⟩] [0, 1, 8, 9, 10])))

def c_r1_natDiv : C := (.seq (.reg [⟨some 4, .mv (.c .nils), none⟩,
       ⟨some 5, .mv (.c .nils), none⟩] [0, 1])
   (.seq (.seq (.reg [⟨some 12, .mv (.t 0), none⟩,
         ⟨some 13, .mv (.t 1), none⟩,
         ⟨some 14, .call 96 [(.t 12), (.t 13)], none⟩,
         ⟨some 15, .bin .lss (.t 14) (.c (.d (.int .i64 0))), none⟩] [0, 1, 15])
     (.cond (.t 15) (.seq (.reg [⟨some 16, .mv (.t 0), none⟩,
           ⟨some 17, .call 114 [(.t 16)], none⟩,
           ⟨some 4, .mv (.c .nils), none⟩,
           ⟨some 5, .mv (.t 17), none⟩] [4, 5])
       .ret)
      .skip))
    (.seq (.seq (.reg [⟨some 18, .mv (.t 1), none⟩,
          ⟨some 19, .len (.t 18), none⟩,
          ⟨some 20, .bin .eql (.t 19) (.c (.d (.int .i64 1))), none⟩] [0, 1, 20])
      (.cond (.t 20) (.seq (.reg [⟨some 22, .mv (.t 0), none⟩,
            ⟨some 23, .mv (.t 1), none⟩,
            ⟨some 24, .ix (.t 23) (.c (.d (.int .i64 0))) 1, none⟩,
            ⟨some 25, .ld (.t 24) none, none⟩,
            ⟨some 26, .conv .u64 (.t 25), none⟩,
            ⟨some 27, .call 131 [(.t 22), (.t 26)], none⟩,
            ⟨some 21, .mv (.t 27), none⟩,
            ⟨some 28, .ext (.t 21) 0, none⟩,
            ⟨some 29, .ext (.t 21) 1, none⟩,
            ⟨some 6, .mv (.t 28), none⟩,
            ⟨some 7, .mv (.t 29), none⟩] [6, 7])
        (.seq (.reg [⟨some 30, .mv (.t 6), none⟩,
             ⟨some 31, .mv (.t 7), none⟩,
             ⟨some 32, .call 92 [(.t 31)], none⟩,
             ⟨some 4, .mv (.t 30), none⟩,
             ⟨some 5, .mv (.t 32), none⟩] [4, 5])
         .ret))
       .skip))
     (.seq (.reg [⟨some 33, .mv (.t 0), none⟩,
          ⟨some 34, .len (.t 33), none⟩,
          ⟨some 35, .msl 117 1 4 [(.d (.int .u32 0))] (.t 34) (.t 34), none⟩,
          ⟨some 8, .mv (.t 35), none⟩] [0, 1, 8])
      (.seq (.reg [⟨some 9, .mv (.c .nils), none⟩] [0, 1, 8, 9])
       (.seq (.seq (.reg [⟨some 36, .mv (.t 0), none⟩,
             ⟨some 37, .len (.t 36), none⟩,
             ⟨some 38, .bin .sub (.t 37) (.c (.d (.int .i64 1))), none⟩,
             ⟨some 10, .mv (.t 38), none⟩] [0, 1, 8, 9, 10])
         (.block 0 (.loop c_r1_natDiv_L2)))
        (.seq (.reg [⟨some 87, .mv (.t 8), none⟩,
             ⟨some 88, .call 114 [(.t 87)], none⟩,
             ⟨some 89, .mv (.t 9), none⟩,
             ⟨some 4, .mv (.t 88), none⟩,
             ⟨some 5, .mv (.t 89), none⟩] [4, 5])
         .ret)))))))

def t_r1_natDiv : List (List Nat × PT) := [([0, 1], .done), ([0, 1, 15], .done), ([4, 5], .done), ([0, 1, 20], .done), ([6, 7], .done), ([4, 5], .done), ([0, 1, 8], .done), ([0, 1, 8, 9], .done), ([0, 1, 8, 9, 10], .done), ([0, 1, 8, 9, 10, 40], .done), ([0, 1, 8, 9, 10], .done), ([0, 1, 8, 9, 10, 11], .done), ([0, 1, 8, 9, 10, 11, 64], .done), ([0, 1, 8, 9, 10, 11], .done), ([0, 1, 8, 9, 10, 11], .done), ([0, 1, 8, 9, 10, 11, 76], .done), ([0, 1, 8, 9, 10, 11], .done), ([0, 1, 8, 9, 10, 11], .done), ([0, 1, 8, 9, 10], .done), ([0, 1, 8, 9, 10], .done), ([4, 5], .done)]

noncomputable def x_r1_natDiv : Cx := ⟨Tryd.prog, 113, Tryd.f113, 90, [], [], [.t 4, .t 5]⟩
theorem g_r1_natDiv : Good x_r1_natDiv := ⟨Tryd.func113, by kernel_rfl⟩
theorem rs_r1_natDiv : x_r1_natDiv.rs = [.t 4, .t 5] := rfl
theorem k_r1_natDiv : compC Tryd.prog 90 [] [] (Tryd.f113.body.getD .skip) t_r1_natDiv = some (c_r1_natDiv, []) := by kernel_rfl
theorem b_r1_natDiv : Tryd.f113.body = some (Tryd.f113.body.getD .skip) := by kernel_rfl
theorem i_r1_natDiv {args : List AV} {σ : Heap} {K : AV → Heap → Prop} (hl : args.length ≤ 90) (h : Run x_r1_natDiv K [.code c_r1_natDiv] (argF args) E σ) : ACalls Tryd.prog 113 args σ K :=
  acalls_of (cx := x_r1_natDiv) g_r1_natDiv b_r1_natDiv Tryd.ntmps113 hl (compC_rc x_r1_natDiv _ _ _ _ k_r1_natDiv) h

/-! ### amortcost/amortcostref1.cut -/
/- slots of c_r1_cut_L0 : [0, 3] -/
def c_r1_cut_L0 : C := (.seq (.seq (.reg [⟨some 6, .mv (.t 3), none⟩,
        ⟨some 7, .bin .gtr (.t 6) (.c (.d (.int .i64 0))), none⟩,
        ⟨some 8, .mv (.t 7), none⟩,
        ⟨some 9, .mv (.t 0), some (8, true)⟩,
        ⟨some 10, .mv (.t 3), some (8, true)⟩,
        ⟨some 11, .bin .sub (.t 10) (.c (.d (.int .i64 1))), some (8, true)⟩,
        ⟨some 12, .ix (.t 9) (.t 11) 1, some (8, true)⟩,
        ⟨some 13, .ld (.t 12) none, some (8, true)⟩,
        ⟨some 14, .bin .eql (.t 13) (.c (.d (.int .u32 0))), some (8, true)⟩,
        ⟨some 15, .pick (.t 8) (.t 14) (.c (.d (.bool false))), none⟩] [0, 3, 15])
    (.cond (.t 15) .skip
     (.exit 0)))
   (.block 1 (.reg [⟨some 16, .mv (.t 3), none⟩,
        ⟨some 17, .bin .sub (.t 16) (.c (.d (.int .i64 1))), none⟩,
        ⟨some 3, .mv (.t 17), none⟩] [0, 3])))

def c_r1_cut : C := (.seq (.reg [⟨some 2, .mv (.c .nils), none⟩] [0])
   (.seq (.reg [⟨some 4, .mv (.t 0), none⟩,
        ⟨some 5, .len (.t 4), none⟩,
        ⟨some 3, .mv (.t 5), none⟩] [0, 3])
    (.seq (.block 0 (.loop c_r1_cut_L0))
     (.seq (.reg [⟨some 18, .mv (.t 0), none⟩,
          ⟨some 19, .mv (.t 3), none⟩,
          ⟨some 20, .sls (.t 18) none (some (.t 19)) none 1, none⟩,
          ⟨some 21, .app 117 1 4 (.c .nils) (.t 20), none⟩,
          ⟨some 2, .mv (.t 21), none⟩] [2])
      .ret))))

def t_r1_cut : List (List Nat × PT) := [([0], .done), ([0, 3], .done), ([0, 3, 15], .done), ([0, 3], .done), ([2], .done)]

noncomputable def x_r1_cut : Cx := ⟨Tryd.prog, 114, Tryd.f114, 22, [], [], [.t 2]⟩
theorem g_r1_cut : Good x_r1_cut := ⟨Tryd.func114, by kernel_rfl⟩
theorem rs_r1_cut : x_r1_cut.rs = [.t 2] := rfl
theorem k_r1_cut : compC Tryd.prog 22 [] [] (Tryd.f114.body.getD .skip) t_r1_cut = some (c_r1_cut, []) := by kernel_rfl
theorem b_r1_cut : Tryd.f114.body = some (Tryd.f114.body.getD .skip) := by kernel_rfl
theorem i_r1_cut {args : List AV} {σ : Heap} {K : AV → Heap → Prop} (hl : args.length ≤ 22) (h : Run x_r1_cut K [.code c_r1_cut] (argF args) E σ) : ACalls Tryd.prog 114 args σ K :=
  acalls_of (cx := x_r1_cut) g_r1_cut b_r1_cut Tryd.ntmps114 hl (compC_rc x_r1_cut _ _ _ _ k_r1_cut) h

/-! ### amortcost/amortcostref1.natSmall -/
/- slots of c_r1_natSmall_L0 : [0, 1, 6, 7, 8] -/
def c_r1_natSmall_L0 : C := (.seq (.seq (.reg [⟨some 15, .mv (.t 8), none⟩,
        ⟨some 16, .bin .geq (.t 15) (.c (.d (.int .i64 0))), none⟩] [0, 1, 6, 7, 8, 16])
    (.cond (.t 16) .skip
     (.exit 0)))
   (.seq (.block 1 (.seq (.reg [⟨some 19, .mv (.t 7), none⟩,
          ⟨some 20, .bin .mul (.t 19) (.c (.d (.int .u64 1000000000))), none⟩,
          ⟨some 21, .mv (.t 0), none⟩,
          ⟨some 22, .mv (.t 8), none⟩,
          ⟨some 23, .ix (.t 21) (.t 22) 1, none⟩,
          ⟨some 24, .ld (.t 23) none, none⟩,
          ⟨some 25, .conv .u64 (.t 24), none⟩,
          ⟨some 26, .bin .add (.t 20) (.t 25), none⟩,
          ⟨some 7, .mv (.t 26), none⟩] [0, 1, 6, 7, 8])
      (.seq (.reg [⟨some 27, .mv (.t 6), none⟩,
           ⟨some 28, .mv (.t 8), none⟩,
           ⟨some 29, .mv (.t 7), none⟩,
           ⟨some 30, .mv (.t 1), none⟩,
           ⟨some 31, .bin .quo (.t 29) (.t 30), none⟩,
           ⟨some 32, .conv .u32 (.t 31), none⟩,
           ⟨some 33, .ix (.t 27) (.t 28) 1, none⟩,
           ⟨none, .st (.t 33) (.t 32) 1, none⟩] [0, 1, 6, 7, 8])
       (.reg [⟨some 34, .mv (.t 7), none⟩,
           ⟨some 35, .mv (.t 1), none⟩,
           ⟨some 36, .bin .rem (.t 34) (.t 35), none⟩,
           ⟨some 7, .mv (.t 36), none⟩] [0, 1, 6, 7, 8]))))
    (.reg [⟨some 17, .mv (.t 8), none⟩,
        ⟨some 18, .bin .sub (.t 17) (.c (.d (.int .i64 1))), none⟩,
        ⟨some 8, .mv (.t 18), none⟩] [0, 1, 6, 7, 8])))

def c_r1_natSmall : C := (.seq (.reg [⟨some 4, .mv (.c .nils), none⟩,
       ⟨some 5, .mv (.c (.d (.int .u64 0))), none⟩] [0, 1])
   (.seq (.reg [⟨some 9, .mv (.t 0), none⟩,
        ⟨some 10, .len (.t 9), none⟩,
        ⟨some 11, .msl 117 1 4 [(.d (.int .u32 0))] (.t 10) (.t 10), none⟩,
        ⟨some 6, .mv (.t 11), none⟩] [0, 1, 6])
    (.seq (.reg [⟨some 7, .mv (.c (.d (.int .u64 0))), none⟩] [0, 1, 6, 7])
     (.seq (.seq (.reg [⟨some 12, .mv (.t 0), none⟩,
           ⟨some 13, .len (.t 12), none⟩,
           ⟨some 14, .bin .sub (.t 13) (.c (.d (.int .i64 1))), none⟩,
           ⟨some 8, .mv (.t 14), none⟩] [0, 1, 6, 7, 8])
       (.block 0 (.loop c_r1_natSmall_L0)))
      (.seq (.reg [⟨some 37, .mv (.t 6), none⟩,
           ⟨some 38, .call 114 [(.t 37)], none⟩,
           ⟨some 39, .mv (.t 7), none⟩,
           ⟨some 4, .mv (.t 38), none⟩,
           ⟨some 5, .mv (.t 39), none⟩] [4, 5])
       .ret)))))

def t_r1_natSmall : List (List Nat × PT) := [([0, 1], .done), ([0, 1, 6], .done), ([0, 1, 6, 7], .done), ([0, 1, 6, 7, 8], .done), ([0, 1, 6, 7, 8, 16], .done), ([0, 1, 6, 7, 8], .done), ([0, 1, 6, 7, 8], .done), ([0, 1, 6, 7, 8], .done), ([0, 1, 6, 7, 8], .done), ([4, 5], .done)]

noncomputable def x_r1_natSmall : Cx := ⟨Tryd.prog, 131, Tryd.f131, 40, [], [], [.t 4, .t 5]⟩
theorem g_r1_natSmall : Good x_r1_natSmall := ⟨Tryd.func131, by kernel_rfl⟩
theorem rs_r1_natSmall : x_r1_natSmall.rs = [.t 4, .t 5] := rfl
theorem k_r1_natSmall : compC Tryd.prog 40 [] [] (Tryd.f131.body.getD .skip) t_r1_natSmall = some (c_r1_natSmall, []) := by kernel_rfl
theorem b_r1_natSmall : Tryd.f131.body = some (Tryd.f131.body.getD .skip) := by kernel_rfl
theorem i_r1_natSmall {args : List AV} {σ : Heap} {K : AV → Heap → Prop} (hl : args.length ≤ 40) (h : Run x_r1_natSmall K [.code c_r1_natSmall] (argF args) E σ) : ACalls Tryd.prog 131 args σ K :=
  acalls_of (cx := x_r1_natSmall) g_r1_natSmall b_r1_natSmall Tryd.ntmps131 hl (compC_rc x_r1_natSmall _ _ _ _ k_r1_natSmall) h

/-! ### amortcost/amortcostref1.guess -/
def c_r1_guess : C := (.seq (.reg [⟨some 4, .mv (.c (.d (.int .u64 0))), none⟩] [0, 1])
   (.seq (.reg [⟨some 10, .mv (.t 1), none⟩,
        ⟨some 11, .len (.t 10), none⟩,
        ⟨some 5, .mv (.t 11), none⟩] [0, 1, 5])
    (.seq (.seq (.reg [⟨some 12, .mv (.t 0), none⟩,
          ⟨some 13, .len (.t 12), none⟩,
          ⟨some 14, .mv (.t 5), none⟩,
          ⟨some 15, .bin .lss (.t 13) (.t 14), none⟩] [0, 1, 5, 15])
      (.cond (.t 15) (.seq (.reg [⟨some 4, .mv (.c (.d (.int .u64 0))), none⟩] [4])
        .ret)
       .skip))
     (.seq (.reg [⟨some 16, .mv (.t 1), none⟩,
          ⟨some 17, .mv (.t 5), none⟩,
          ⟨some 18, .bin .sub (.t 17) (.c (.d (.int .i64 1))), none⟩,
          ⟨some 19, .ix (.t 16) (.t 18) 1, none⟩,
          ⟨some 20, .ld (.t 19) none, none⟩,
          ⟨some 21, .conv .u64 (.t 20), none⟩,
          ⟨some 22, .bin .mul (.t 21) (.c (.d (.int .u64 1000000000))), none⟩,
          ⟨some 23, .mv (.t 1), none⟩,
          ⟨some 24, .mv (.t 5), none⟩,
          ⟨some 25, .bin .sub (.t 24) (.c (.d (.int .i64 2))), none⟩,
          ⟨some 26, .ix (.t 23) (.t 25) 1, none⟩,
          ⟨some 27, .ld (.t 26) none, none⟩,
          ⟨some 28, .conv .u64 (.t 27), none⟩,
          ⟨some 29, .bin .add (.t 22) (.t 28), none⟩,
          ⟨some 6, .mv (.t 29), none⟩] [0, 5, 6])
      (.seq (.reg [⟨some 30, .mv (.t 0), none⟩,
           ⟨some 31, .mv (.t 5), none⟩,
           ⟨some 32, .bin .sub (.t 31) (.c (.d (.int .i64 1))), none⟩,
           ⟨some 33, .ix (.t 30) (.t 32) 1, none⟩,
           ⟨some 34, .ld (.t 33) none, none⟩,
           ⟨some 35, .conv .u64 (.t 34), none⟩,
           ⟨some 36, .bin .mul (.t 35) (.c (.d (.int .u64 1000000000))), none⟩,
           ⟨some 37, .mv (.t 0), none⟩,
           ⟨some 38, .mv (.t 5), none⟩,
           ⟨some 39, .bin .sub (.t 38) (.c (.d (.int .i64 2))), none⟩,
           ⟨some 40, .ix (.t 37) (.t 39) 1, none⟩,
           ⟨some 41, .ld (.t 40) none, none⟩,
           ⟨some 42, .conv .u64 (.t 41), none⟩,
           ⟨some 43, .bin .add (.t 36) (.t 42), none⟩,
           ⟨some 7, .mv (.t 43), none⟩] [0, 5, 6, 7])
       (.seq (.seq (.reg [⟨some 44, .mv (.t 0), none⟩,
             ⟨some 45, .len (.t 44), none⟩,
             ⟨some 46, .mv (.t 5), none⟩,
             ⟨some 47, .bin .eql (.t 45) (.t 46), none⟩] [6, 7, 47])
         (.cond (.t 47) (.seq (.reg [⟨some 48, .mv (.t 7), none⟩,
               ⟨some 49, .mv (.t 6), none⟩,
               ⟨some 50, .bin .quo (.t 48) (.t 49), none⟩,
               ⟨some 4, .mv (.t 50), none⟩] [4])
           .ret)
          .skip))
        (.seq .bad
         (.seq .bad
          (.seq (.reg [⟨some 65, .mv (.t 9), none⟩,
               ⟨some 66, .bin .add (.t 65) (.c (.d (.int .u64 2))), none⟩,
               ⟨some 67, .mm false (.t 66) (.c (.d (.int .u64 999999999))), none⟩,
               ⟨some 4, .mv (.t 67), none⟩] [4])
           .ret)))))))))

def t_r1_guess : List (List Nat × PT) := [([0, 1], .done), ([0, 1, 5], .done), ([0, 1, 5, 15], .done), ([4], .done), ([0, 5, 6], .done), ([0, 5, 6, 7], .done), ([6, 7, 47], .done), ([4], .done), ([], .done), ([], .done), ([4], .done)]

noncomputable def x_r1_guess : Cx := ⟨Tryd.prog, 132, Tryd.f132, 68, [], [], [.t 4]⟩
theorem g_r1_guess : Good x_r1_guess := ⟨Tryd.func132, by kernel_rfl⟩
theorem rs_r1_guess : x_r1_guess.rs = [.t 4] := rfl
theorem k_r1_guess : compC Tryd.prog 68 [] [] (Tryd.f132.body.getD .skip) t_r1_guess = some (c_r1_guess, []) := by kernel_rfl
theorem b_r1_guess : Tryd.f132.body = some (Tryd.f132.body.getD .skip) := by kernel_rfl
theorem i_r1_guess {args : List AV} {σ : Heap} {K : AV → Heap → Prop} (hl : args.length ≤ 68) (h : Run x_r1_guess K [.code c_r1_guess] (argF args) E σ) : ACalls Tryd.prog 132 args σ K :=
  acalls_of (cx := x_r1_guess) g_r1_guess b_r1_guess Tryd.ntmps132 hl (compC_rc x_r1_guess _ _ _ _ k_r1_guess) h

end Go.Ab
