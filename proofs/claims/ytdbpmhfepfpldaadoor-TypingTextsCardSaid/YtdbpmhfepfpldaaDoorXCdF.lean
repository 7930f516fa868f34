/- The compact codes of the functions of this seat, computed out of the translation. Conditions: none. -/
import Derived.Test.YtdbpmhfepfpldaaDoorXAb13
import Derived.Test.YtdbpmhfepfpldaaDoorProg
import Derived.KernelRfl
set_option linter.unusedSimpArgs false
set_option linter.unusedVariables false
namespace Go.Ab
open Go.Proofs

theorem mixed : Tryd.prog.follows .mixedOrders = true := by kernel_rfl

/-! ### amortcost/amortcostlaw19.FormBasics -/
def c_law19_FormBasics : C := (.seq (.reg [⟨some 4, .mv (.c (.d (.bool false))), none⟩] [0, 1])
   (.seq (.reg [⟨some 5, .mv (.t 0), none⟩,
        ⟨some 6, .call 18 [(.t 5)], none⟩,
        ⟨some 7, .mv (.t 0), none⟩,
        ⟨some 8, .call 19 [(.t 7)], none⟩,
        ⟨some 9, .call 17 [(.t 6), (.t 8)], none⟩,
        ⟨some 10, .mv (.t 9), none⟩,
        ⟨some 11, .mv (.t 1), some (10, true)⟩,
        ⟨some 12, .call 20 [(.t 11)], some (10, true)⟩,
        ⟨some 13, .mv (.t 1), some (10, true)⟩,
        ⟨some 14, .call 21 [(.t 13)], some (10, true)⟩,
        ⟨some 15, .call 17 [(.t 12), (.t 14)], some (10, true)⟩,
        ⟨some 16, .pick (.t 10) (.t 15) (.c (.d (.bool false))), none⟩,
        ⟨some 17, .mv (.t 16), none⟩,
        ⟨some 18, .call 22 [], some (17, true)⟩,
        ⟨some 19, .pick (.t 17) (.t 18) (.c (.d (.bool false))), none⟩,
        ⟨some 4, .mv (.t 19), none⟩] [4])
    .ret))

def t_law19_FormBasics : List (List Nat × PT) := [([0, 1], .done), ([4], .done)]

noncomputable def x_law19_FormBasics : Cx := ⟨Tryd.prog, 4, Tryd.f4, 20, [], [], [.t 4]⟩
theorem g_law19_FormBasics : Good x_law19_FormBasics := ⟨Tryd.func4, by kernel_rfl⟩
theorem rs_law19_FormBasics : x_law19_FormBasics.rs = [.t 4] := rfl
theorem k_law19_FormBasics : compC Tryd.prog 20 [] [] (Tryd.f4.body.getD .skip) t_law19_FormBasics = some (c_law19_FormBasics, []) := by kernel_rfl
theorem b_law19_FormBasics : Tryd.f4.body = some (Tryd.f4.body.getD .skip) := by kernel_rfl
theorem i_law19_FormBasics {args : List AV} {σ : Heap} {K : AV → Heap → Prop} (hl : args.length ≤ 20) (h : Run x_law19_FormBasics K [.code c_law19_FormBasics] (argF args) E σ) : ACalls Tryd.prog 4 args σ K :=
  acalls_of (cx := x_law19_FormBasics) g_law19_FormBasics b_law19_FormBasics Tryd.ntmps4 hl (compC_rc x_law19_FormBasics _ _ _ _ k_law19_FormBasics) h

/-! ### amortcost/amortcostlaw19.FormTexts -/
def c_law19_FormTexts : C := (.seq (.reg [⟨some 2, .box (.t 0) false, none⟩,
       ⟨some 3, .box (.t 1) false, none⟩,
       ⟨some 4, .mv (.c (.d (.bool false))), none⟩] [2, 3])
   (.seq (.seq (.reg [⟨some 7, .ldl (.t 2) (some 2), none⟩,
         ⟨some 8, .ldl (.t 3) (some 2), none⟩,
         ⟨some 9, .bsl 2 2 [(.d (.int .i64 0)), .nils, (.d (.int .i64 0)), .nils] [(0, 2, (.t 7)), (2, 2, (.t 8))], none⟩,
         ⟨some 10, .call 23 [(.t 9)], none⟩,
         ⟨some 11, .un .not (.t 10), none⟩] [2, 3, 11])
     (.cond (.t 11) (.seq (.reg [⟨some 4, .mv (.c (.d (.bool true))), none⟩] [4])
       .ret)
      .skip))
    (.seq (.reg [⟨some 12, .ldl (.t 2) (some 2), none⟩,
         ⟨some 14, .ldl (.t 3) (some 2), none⟩,
         ⟨some 13, .call 24 [(.t 12)], none⟩,
         ⟨some 15, .call 24 [(.t 14)], none⟩,
         ⟨some 5, .mv (.t 13), none⟩,
         ⟨some 6, .mv (.t 15), none⟩] [2, 3, 5, 6])
     (.seq (.seq (.reg [⟨some 16, .mv (.t 5), none⟩,
           ⟨some 17, .ldl (.t 2) (some 2), none⟩,
           ⟨some 18, .call 25 [(.t 17)], none⟩,
           ⟨some 19, .bin .neq (.t 16) (.t 18), none⟩,
           ⟨some 20, .mv (.t 19), none⟩,
           ⟨some 21, .mv (.t 6), some (20, false)⟩,
           ⟨some 22, .ldl (.t 3) (some 2), some (20, false)⟩,
           ⟨some 23, .call 25 [(.t 22)], some (20, false)⟩,
           ⟨some 24, .bin .neq (.t 21) (.t 23), some (20, false)⟩,
           ⟨some 25, .pick (.t 20) (.c (.d (.bool true))) (.t 24), none⟩] [2, 3, 5, 6, 25])
       (.cond (.t 25) (.seq (.reg [⟨some 4, .mv (.c (.d (.bool false))), none⟩] [4])
         .ret)
        .skip))
      (.seq (.reg [⟨some 26, .ldl (.t 2) (some 2), none⟩,
           ⟨some 27, .call 26 [(.t 26)], none⟩,
           ⟨some 28, .un .not (.t 27), none⟩,
           ⟨some 29, .mv (.t 28), none⟩,
           ⟨some 30, .ldl (.t 3) (some 2), some (29, false)⟩,
           ⟨some 31, .call 26 [(.t 30)], some (29, false)⟩,
           ⟨some 32, .un .not (.t 31), some (29, false)⟩,
           ⟨some 33, .pick (.t 29) (.c (.d (.bool true))) (.t 32), none⟩,
           ⟨some 34, .mv (.t 33), none⟩,
           ⟨some 35, .mv (.t 5), some (34, false)⟩,
           ⟨some 36, .mv (.t 6), some (34, false)⟩,
           ⟨some 37, .bin .eql (.t 35) (.t 36), some (34, false)⟩,
           ⟨some 38, .ldl (.t 2) (some 2), some (34, false)⟩,
           ⟨some 39, .ldl (.t 3) (some 2), some (34, false)⟩,
           ⟨some 40, .call 17 [(.t 38), (.t 39)], some (34, false)⟩,
           ⟨some 41, .binb .eql (.t 37) (.t 40), some (34, false)⟩,
           ⟨some 42, .pick (.t 34) (.c (.d (.bool true))) (.t 41), none⟩,
           ⟨some 43, .mv (.t 42), none⟩,
           ⟨some 44, .call 22 [], some (43, true)⟩,
           ⟨some 45, .pick (.t 43) (.t 44) (.c (.d (.bool false))), none⟩,
           ⟨some 4, .mv (.t 45), none⟩] [4])
       .ret)))))

def t_law19_FormTexts : List (List Nat × PT) := [([2, 3], .done), ([2, 3, 11], .done), ([4], .done), ([2, 3, 5, 6], (.one 0 (.one 2 (.one 1 (.one 3 (.one 4 (.one 5 .done))))))), ([2, 3, 5, 6, 25], .done), ([4], .done), ([4], .done)]

noncomputable def x_law19_FormTexts : Cx := ⟨Tryd.prog, 5, Tryd.f5, 46, [300007, 300008, 300012, 300014, 300017, 300022, 300026, 300030, 300038, 300039], [], [.t 4]⟩
theorem g_law19_FormTexts : Good x_law19_FormTexts := ⟨Tryd.func5, by kernel_rfl⟩
theorem rs_law19_FormTexts : x_law19_FormTexts.rs = [.t 4] := rfl
theorem k_law19_FormTexts : compC Tryd.prog 46 [300007, 300008, 300012, 300014, 300017, 300022, 300026, 300030, 300038, 300039] [] (Tryd.f5.body.getD .skip) t_law19_FormTexts = some (c_law19_FormTexts, []) := by kernel_rfl
theorem b_law19_FormTexts : Tryd.f5.body = some (Tryd.f5.body.getD .skip) := by kernel_rfl
theorem i_law19_FormTexts {args : List AV} {σ : Heap} {K : AV → Heap → Prop} (hl : args.length ≤ 46) (h : Run x_law19_FormTexts K [.code c_law19_FormTexts] (argF args) E σ) : ACalls Tryd.prog 5 args σ K :=
  acalls_of (cx := x_law19_FormTexts) g_law19_FormTexts b_law19_FormTexts Tryd.ntmps5 hl (compC_rc x_law19_FormTexts _ _ _ _ k_law19_FormTexts) h

/-! ### amortcost/amortcostlaw19.FormSums -/
def c_law19_FormSums : C := (.seq (.reg [⟨some 3, .box (.t 0) false, none⟩,
       ⟨some 4, .box (.t 1) false, none⟩,
       ⟨some 6, .mv (.c (.d (.bool false))), none⟩] [2, 3, 4])
   (.seq (.seq (.reg [⟨some 19, .ldl (.t 3) (some 2), none⟩,
         ⟨some 20, .ldl (.t 4) (some 2), none⟩,
         ⟨some 21, .bsl 2 2 [(.d (.int .i64 0)), .nils, (.d (.int .i64 0)), .nils] [(0, 2, (.t 19)), (2, 2, (.t 20))], none⟩,
         ⟨some 22, .call 23 [(.t 21)], none⟩,
         ⟨some 23, .un .not (.t 22), none⟩] [2, 3, 4, 23])
     (.cond (.t 23) (.seq (.reg [⟨some 6, .mv (.c (.d (.bool true))), none⟩] [6])
       .ret)
      .skip))
    (.seq (.reg [⟨some 25, .ldl (.t 3) (some 2), none⟩,
         ⟨some 26, .ldl (.t 4) (some 2), none⟩,
         ⟨some 27, .call 27 [(.t 25), (.t 26)], none⟩,
         ⟨some 24, .mv (.t 27), none⟩,
         ⟨some 28, .ext (.t 24) 0, none⟩,
         ⟨some 29, .ext (.t 24) 1, none⟩,
         ⟨some 7, .al [(.d (.int .i64 0)), .nils] false, none⟩,
         ⟨none, .st (.t 7) (.t 28) 2, none⟩,
         ⟨some 8, .mv (.t 29), none⟩] [2, 3, 4, 7, 8])
     (.seq (.reg [⟨some 31, .ldl (.t 3) (some 2), none⟩,
          ⟨some 32, .ldl (.t 4) (some 2), none⟩,
          ⟨some 33, .call 28 [(.t 31), (.t 32)], none⟩,
          ⟨some 30, .mv (.t 33), none⟩,
          ⟨some 34, .ext (.t 30) 0, none⟩,
          ⟨some 35, .ext (.t 30) 1, none⟩,
          ⟨some 9, .al [(.d (.int .i64 0)), .nils] false, none⟩,
          ⟨none, .st (.t 9) (.t 34) 2, none⟩,
          ⟨some 10, .mv (.t 35), none⟩] [2, 3, 4, 7, 8, 9, 10])
      (.seq (.reg [⟨some 37, .ldl (.t 3) (some 2), none⟩,
           ⟨some 38, .ldl (.t 4) (some 2), none⟩,
           ⟨some 39, .call 29 [(.t 37), (.t 38)], none⟩,
           ⟨some 36, .mv (.t 39), none⟩,
           ⟨some 40, .ext (.t 36) 0, none⟩,
           ⟨some 41, .ext (.t 36) 1, none⟩,
           ⟨some 11, .al [(.d (.int .i64 0)), .nils] false, none⟩,
           ⟨none, .st (.t 11) (.t 40) 2, none⟩,
           ⟨some 12, .mv (.t 41), none⟩] [2, 3, 4, 7, 8, 9, 10, 11, 12])
       (.seq (.reg [⟨some 43, .ldl (.t 3) (some 2), none⟩,
            ⟨some 44, .ldl (.t 4) (some 2), none⟩,
            ⟨some 45, .call 30 [(.t 43), (.t 44)], none⟩,
            ⟨some 42, .mv (.t 45), none⟩,
            ⟨some 46, .ext (.t 42) 0, none⟩,
            ⟨some 47, .ext (.t 42) 1, none⟩,
            ⟨some 13, .al [(.d (.int .i64 0)), .nils] false, none⟩,
            ⟨none, .st (.t 13) (.t 46) 2, none⟩,
            ⟨some 14, .mv (.t 47), none⟩] [2, 3, 7, 8, 9, 10, 11, 12, 13, 14])
        (.seq (.seq (.reg [⟨some 48, .mv (.t 8), none⟩,
              ⟨some 49, .mv (.t 10), none⟩,
              ⟨some 50, .bin .neq (.t 48) (.t 49), none⟩,
              ⟨some 51, .mv (.t 50), none⟩,
              ⟨some 52, .ldl (.t 7) (some 2), some (51, false)⟩,
              ⟨some 53, .ldl (.t 9) (some 2), some (51, false)⟩,
              ⟨some 54, .call 17 [(.t 52), (.t 53)], some (51, false)⟩,
              ⟨some 55, .un .not (.t 54), some (51, false)⟩,
              ⟨some 56, .pick (.t 51) (.c (.d (.bool true))) (.t 55), none⟩,
              ⟨some 57, .mv (.t 56), none⟩,
              ⟨some 58, .mv (.t 12), some (57, false)⟩,
              ⟨some 59, .mv (.t 14), some (57, false)⟩,
              ⟨some 60, .bin .neq (.t 58) (.t 59), some (57, false)⟩,
              ⟨some 61, .pick (.t 57) (.c (.d (.bool true))) (.t 60), none⟩,
              ⟨some 62, .mv (.t 61), none⟩,
              ⟨some 63, .ldl (.t 11) (some 2), some (62, false)⟩,
              ⟨some 64, .ldl (.t 13) (some 2), some (62, false)⟩,
              ⟨some 65, .call 17 [(.t 63), (.t 64)], some (62, false)⟩,
              ⟨some 66, .un .not (.t 65), some (62, false)⟩,
              ⟨some 67, .pick (.t 62) (.c (.d (.bool true))) (.t 66), none⟩] [2, 3, 67])
          (.cond (.t 67) (.seq (.reg [⟨some 6, .mv (.c (.d (.bool false))), none⟩] [6])
            .ret)
           .skip))
         (.seq (.reg [⟨some 69, .ldl (.t 3) (some 2), none⟩,
              ⟨some 70, .mv (.t 2), none⟩,
              ⟨some 71, .call 31 [(.t 69), (.t 70)], none⟩,
              ⟨some 68, .mv (.t 71), none⟩,
              ⟨some 72, .ext (.t 68) 0, none⟩,
              ⟨some 73, .ext (.t 68) 1, none⟩,
              ⟨some 15, .al [(.d (.int .i64 0)), .nils] false, none⟩,
              ⟨none, .st (.t 15) (.t 72) 2, none⟩,
              ⟨some 16, .mv (.t 73), none⟩] [2, 3, 15, 16])
          (.seq (.reg [⟨some 75, .ldl (.t 3) (some 2), none⟩,
               ⟨some 76, .mv (.t 2), none⟩,
               ⟨some 77, .call 32 [(.t 75), (.t 76)], none⟩,
               ⟨some 74, .mv (.t 77), none⟩,
               ⟨some 78, .ext (.t 74) 0, none⟩,
               ⟨some 79, .ext (.t 74) 1, none⟩,
               ⟨some 17, .al [(.d (.int .i64 0)), .nils] false, none⟩,
               ⟨none, .st (.t 17) (.t 78) 2, none⟩,
               ⟨some 18, .mv (.t 79), none⟩] [15, 16, 17, 18])
           (.seq (.reg [⟨some 80, .mv (.t 16), none⟩,
                ⟨some 81, .mv (.t 18), none⟩,
                ⟨some 82, .bin .eql (.t 80) (.t 81), none⟩,
                ⟨some 83, .mv (.t 82), none⟩,
                ⟨some 84, .ldl (.t 15) (some 2), some (83, true)⟩,
                ⟨some 85, .ldl (.t 17) (some 2), some (83, true)⟩,
                ⟨some 86, .call 17 [(.t 84), (.t 85)], some (83, true)⟩,
                ⟨some 87, .pick (.t 83) (.t 86) (.c (.d (.bool false))), none⟩,
                ⟨some 88, .mv (.t 87), none⟩,
                ⟨some 89, .call 22 [], some (88, true)⟩,
                ⟨some 90, .pick (.t 88) (.t 89) (.c (.d (.bool false))), none⟩,
                ⟨some 6, .mv (.t 90), none⟩] [6])
            .ret))))))))))

def t_law19_FormSums : List (List Nat × PT) := [([2, 3, 4], .done), ([2, 3, 4, 23], .done), ([6], .done), ([2, 3, 4, 7, 8], .done), ([2, 3, 4, 7, 8, 9, 10], .done), ([2, 3, 4, 7, 8, 9, 10, 11, 12], .done), ([2, 3, 7, 8, 9, 10, 11, 12, 13, 14], .done), ([2, 3, 67], .done), ([6], .done), ([2, 3, 15, 16], .done), ([15, 16, 17, 18], .done), ([6], .done)]

noncomputable def x_law19_FormSums : Cx := ⟨Tryd.prog, 6, Tryd.f6, 91, [300019, 300020, 300025, 300026, 300031, 300032, 300037, 300038, 300043, 300044, 300052, 300053, 300063, 300064, 300069, 300075, 300084, 300085], [], [.t 6]⟩
theorem g_law19_FormSums : Good x_law19_FormSums := ⟨Tryd.func6, by kernel_rfl⟩
theorem rs_law19_FormSums : x_law19_FormSums.rs = [.t 6] := rfl
theorem k_law19_FormSums : compC Tryd.prog 91 [300019, 300020, 300025, 300026, 300031, 300032, 300037, 300038, 300043, 300044, 300052, 300053, 300063, 300064, 300069, 300075, 300084, 300085] [] (Tryd.f6.body.getD .skip) t_law19_FormSums = some (c_law19_FormSums, []) := by kernel_rfl
theorem b_law19_FormSums : Tryd.f6.body = some (Tryd.f6.body.getD .skip) := by kernel_rfl
theorem i_law19_FormSums {args : List AV} {σ : Heap} {K : AV → Heap → Prop} (hl : args.length ≤ 91) (h : Run x_law19_FormSums K [.code c_law19_FormSums] (argF args) E σ) : ACalls Tryd.prog 6 args σ K :=
  acalls_of (cx := x_law19_FormSums) g_law19_FormSums b_law19_FormSums Tryd.ntmps6 hl (compC_rc x_law19_FormSums _ _ _ _ k_law19_FormSums) h

/-! ### amortcost/amortcostlaw19.FormCanonicals -/
def c_law19_FormCanonicals : C := (.seq (.reg [⟨some 1, .box (.t 0) false, none⟩,
       ⟨some 2, .mv (.c (.d (.bool false))), none⟩] [1])
   (.seq (.seq (.reg [⟨some 7, .fld (.t 1) 1, none⟩,
         ⟨some 8, .ldl (.t 7) none, none⟩,
         ⟨some 9, .len (.t 8), none⟩,
         ⟨some 10, .bin .gtr (.t 9) (.c (.d (.int .i64 80))), none⟩] [1, 10])
     (.cond (.t 10) (.seq (.reg [⟨some 2, .mv (.c (.d (.bool true))), none⟩] [2])
       .ret)
      .skip))
    (.seq (.reg [⟨some 12, .ldl (.t 1) (some 2), none⟩,
         ⟨some 13, .call 33 [(.t 12)], none⟩,
         ⟨some 11, .mv (.t 13), none⟩,
         ⟨some 14, .ext (.t 11) 0, none⟩,
         ⟨some 15, .ext (.t 11) 1, none⟩,
         ⟨some 3, .al [(.d (.int .i64 0)), .nils] false, none⟩,
         ⟨none, .st (.t 3) (.t 14) 2, none⟩,
         ⟨some 4, .mv (.t 15), none⟩] [1, 3, 4])
     (.seq (.reg [⟨some 17, .ldl (.t 1) (some 2), none⟩,
          ⟨some 18, .call 34 [(.t 17)], none⟩,
          ⟨some 16, .mv (.t 18), none⟩,
          ⟨some 19, .ext (.t 16) 0, none⟩,
          ⟨some 20, .ext (.t 16) 1, none⟩,
          ⟨some 5, .al [(.d (.int .i64 0)), .nils] false, none⟩,
          ⟨none, .st (.t 5) (.t 19) 2, none⟩,
          ⟨some 6, .mv (.t 20), none⟩] [1, 3, 4, 5, 6])
      (.seq (.reg [⟨some 21, .ldl (.t 1) (some 2), none⟩,
           ⟨some 23, .ldl (.t 1) (some 2), none⟩,
           ⟨some 22, .call 35 [(.t 21)], none⟩,
           ⟨some 24, .call 26 [(.t 23)], none⟩,
           ⟨some 25, .binb .eql (.t 22) (.t 24), none⟩,
           ⟨some 26, .mv (.t 25), none⟩,
           ⟨some 27, .mv (.t 4), some (26, true)⟩,
           ⟨some 28, .mv (.t 6), some (26, true)⟩,
           ⟨some 29, .bin .eql (.t 27) (.t 28), some (26, true)⟩,
           ⟨some 30, .pick (.t 26) (.t 29) (.c (.d (.bool false))), none⟩,
           ⟨some 31, .mv (.t 30), none⟩,
           ⟨some 32, .ldl (.t 3) (some 2), some (31, true)⟩,
           ⟨some 33, .ldl (.t 5) (some 2), some (31, true)⟩,
           ⟨some 34, .call 17 [(.t 32), (.t 33)], some (31, true)⟩,
           ⟨some 35, .pick (.t 31) (.t 34) (.c (.d (.bool false))), none⟩,
           ⟨some 36, .mv (.t 35), none⟩,
           ⟨some 37, .call 22 [], some (36, true)⟩,
           ⟨some 38, .pick (.t 36) (.t 37) (.c (.d (.bool false))), none⟩,
           ⟨some 2, .mv (.t 38), none⟩] [2])
       .ret)))))

def t_law19_FormCanonicals : List (List Nat × PT) := [([1], .done), ([1, 10], .done), ([2], .done), ([1, 3, 4], .done), ([1, 3, 4, 5, 6], .done), ([2], (.one 0 (.one 2 (.one 1 (.one 3 (.one 4 (.one 5 (.one 6 (.one 7 (.one 8 (.one 9 (.one 10 (.one 11 (.one 12 (.one 13 (.one 14 (.one 15 (.one 16 (.one 17 (.one 18 .done))))))))))))))))))))]

noncomputable def x_law19_FormCanonicals : Cx := ⟨Tryd.prog, 7, Tryd.f7, 39, [300008, 300012, 300017, 300021, 300023, 300032, 300033], [], [.t 2]⟩
theorem g_law19_FormCanonicals : Good x_law19_FormCanonicals := ⟨Tryd.func7, by kernel_rfl⟩
theorem rs_law19_FormCanonicals : x_law19_FormCanonicals.rs = [.t 2] := rfl
theorem k_law19_FormCanonicals : compC Tryd.prog 39 [300008, 300012, 300017, 300021, 300023, 300032, 300033] [] (Tryd.f7.body.getD .skip) t_law19_FormCanonicals = some (c_law19_FormCanonicals, []) := by kernel_rfl
theorem b_law19_FormCanonicals : Tryd.f7.body = some (Tryd.f7.body.getD .skip) := by kernel_rfl
theorem i_law19_FormCanonicals {args : List AV} {σ : Heap} {K : AV → Heap → Prop} (hl : args.length ≤ 39) (h : Run x_law19_FormCanonicals K [.code c_law19_FormCanonicals] (argF args) E σ) : ACalls Tryd.prog 7 args σ K :=
  acalls_of (cx := x_law19_FormCanonicals) g_law19_FormCanonicals b_law19_FormCanonicals Tryd.ntmps7 hl (compC_rc x_law19_FormCanonicals _ _ _ _ k_law19_FormCanonicals) h

/-! ### amortcost/amortcostlaw19.FormUnique -/
def c_law19_FormUnique : C := (.seq (.reg [⟨some 3, .box (.t 0) false, none⟩,
       ⟨some 6, .mv (.c (.d (.bool false))), none⟩] [1, 2, 3])
   (.seq (.seq (.reg [⟨some 12, .ldl (.t 3) (some 2), none⟩,
         ⟨some 13, .call 36 [(.t 12)], none⟩,
         ⟨some 14, .un .not (.t 13), none⟩,
         ⟨some 15, .mv (.t 14), none⟩,
         ⟨some 16, .fld (.t 3) 1, some (15, false)⟩,
         ⟨some 17, .ldl (.t 16) none, some (15, false)⟩,
         ⟨some 18, .len (.t 17), some (15, false)⟩,
         ⟨some 19, .bin .gtr (.t 18) (.c (.d (.int .i64 40))), some (15, false)⟩,
         ⟨some 20, .pick (.t 15) (.c (.d (.bool true))) (.t 19), none⟩,
         ⟨some 21, .mv (.t 20), none⟩,
         ⟨some 22, .mv (.t 1), some (21, false)⟩,
         ⟨some 23, .bin .lss (.t 22) (.c (.d (.int .i64 0))), some (21, false)⟩,
         ⟨some 24, .pick (.t 21) (.c (.d (.bool true))) (.t 23), none⟩,
         ⟨some 25, .mv (.t 24), none⟩,
         ⟨some 26, .mv (.t 1), some (25, false)⟩,
         ⟨some 27, .fld (.t 3) 1, some (25, false)⟩,
         ⟨some 28, .ldl (.t 27) none, some (25, false)⟩,
         ⟨some 29, .len (.t 28), some (25, false)⟩,
         ⟨some 30, .bin .geq (.t 26) (.t 29), some (25, false)⟩,
         ⟨some 31, .pick (.t 25) (.c (.d (.bool true))) (.t 30), none⟩,
         ⟨some 32, .mv (.t 31), none⟩,
         ⟨some 33, .mv (.t 2), some (32, false)⟩,
         ⟨some 34, .bin .lss (.t 33) (.c (.d (.int .i64 (-1000)))), some (32, false)⟩,
         ⟨some 35, .pick (.t 32) (.c (.d (.bool true))) (.t 34), none⟩,
         ⟨some 36, .mv (.t 35), none⟩,
         ⟨some 37, .mv (.t 2), some (36, false)⟩,
         ⟨some 38, .bin .gtr (.t 37) (.c (.d (.int .i64 1000))), some (36, false)⟩,
         ⟨some 39, .pick (.t 36) (.c (.d (.bool true))) (.t 38), none⟩] [1, 2, 3, 39])
     (.cond (.t 39) (.seq (.reg [⟨some 6, .mv (.c (.d (.bool true))), none⟩] [6])
       .ret)
      .skip))
    (.seq (.reg [⟨some 41, .ldl (.t 3) (some 2), none⟩,
         ⟨some 42, .call 33 [(.t 41)], none⟩,
         ⟨some 40, .mv (.t 42), none⟩,
         ⟨some 43, .ext (.t 40) 0, none⟩,
         ⟨some 44, .ext (.t 40) 1, none⟩,
         ⟨some 7, .al [(.d (.int .i64 0)), .nils] false, none⟩,
         ⟨none, .st (.t 7) (.t 43) 2, none⟩,
         ⟨some 8, .mv (.t 44), none⟩] [1, 2, 3, 7, 8])
     (.seq (.seq (.reg [⟨some 45, .ldl (.t 3) (some 2), none⟩,
           ⟨some 46, .call 26 [(.t 45)], none⟩,
           ⟨some 47, .mv (.t 46), none⟩,
           ⟨some 48, .mv (.t 8), some (47, true)⟩,
           ⟨some 49, .bin .neq (.t 48) (.c (.d (.int .i64 0))), some (47, true)⟩,
           ⟨some 50, .mv (.t 49), some (47, true)⟩,
           ⟨some 51, .ldl (.t 3) (some 2), some (50, false)⟩,
           ⟨some 52, .ldl (.t 7) (some 2), some (50, false)⟩,
           ⟨some 53, .call 17 [(.t 51), (.t 52)], some (50, false)⟩,
           ⟨some 54, .un .not (.t 53), some (50, false)⟩,
           ⟨some 55, .pick (.t 50) (.c (.d (.bool true))) (.t 54), some (47, true)⟩,
           ⟨some 56, .pick (.t 47) (.t 55) (.c (.d (.bool false))), none⟩] [1, 2, 3, 7, 8, 56])
       (.cond (.t 56) (.seq (.reg [⟨some 6, .mv (.c (.d (.bool false))), none⟩] [6])
         .ret)
        .skip))
      (.seq (.reg [⟨some 9, .al [(.d (.int .i64 0)), .nils] false, none⟩,
           ⟨some 57, .fld (.t 3) 0, none⟩,
           ⟨some 58, .ldl (.t 57) none, none⟩,
           ⟨some 59, .fld (.t 3) 1, none⟩,
           ⟨some 60, .ldl (.t 59) none, none⟩,
           ⟨some 61, .appm 49 2 16 (.c .nils) (.t 60), none⟩,
           ⟨some 62, .bld [(.d (.int .i64 0)), .nils] [(0, 1, (.t 58)), (1, 1, (.t 61))], none⟩,
           ⟨none, .st (.t 9) (.t 62) 2, none⟩] [1, 2, 7, 8, 9])
       (.seq (.seq (.reg [⟨some 63, .fld (.t 9) 1, none⟩,
             ⟨some 64, .ldl (.t 63) none, none⟩,
             ⟨some 65, .mv (.t 1), none⟩,
             ⟨some 66, .ix (.t 64) (.t 65) 2, none⟩,
             ⟨some 67, .fld (.t 66) 1, none⟩,
             ⟨some 68, .ld (.t 67) none, none⟩,
             ⟨some 69, .bin .lss (.t 68) (.c (.d (.int .i64 (-1073741824)))), none⟩,
             ⟨some 70, .mv (.t 69), none⟩,
             ⟨some 71, .fld (.t 9) 1, some (70, false)⟩,
             ⟨some 72, .ldl (.t 71) none, some (70, false)⟩,
             ⟨some 73, .mv (.t 1), some (70, false)⟩,
             ⟨some 74, .ix (.t 72) (.t 73) 2, some (70, false)⟩,
             ⟨some 75, .fld (.t 74) 1, some (70, false)⟩,
             ⟨some 76, .ld (.t 75) none, some (70, false)⟩,
             ⟨some 77, .bin .gtr (.t 76) (.c (.d (.int .i64 1073741824))), some (70, false)⟩,
             ⟨some 78, .pick (.t 70) (.c (.d (.bool true))) (.t 77), none⟩] [1, 2, 7, 8, 9, 78])
         (.cond (.t 78) (.seq (.reg [⟨some 79, .call 22 [], none⟩,
               ⟨some 6, .mv (.t 79), none⟩] [6])
           .ret)
          .skip))
        (.seq (.reg [⟨some 80, .fld (.t 9) 1, none⟩,
             ⟨some 81, .ldl (.t 80) none, none⟩,
             ⟨some 82, .mv (.t 1), none⟩,
             ⟨some 83, .ix (.t 81) (.t 82) 2, none⟩,
             ⟨some 84, .fld (.t 83) 1, none⟩,
             ⟨some 85, .ld (.t 84) none, none⟩,
             ⟨some 86, .mv (.t 2), none⟩,
             ⟨some 87, .bin .sub (.t 85) (.t 86), none⟩,
             ⟨some 88, .ix (.t 81) (.t 82) 2, none⟩,
             ⟨some 89, .fld (.t 88) 1, none⟩,
             ⟨none, .st (.t 89) (.t 87) 1, none⟩] [1, 2, 7, 8, 9])
         (.seq (.reg [⟨some 90, .fld (.t 9) 1, none⟩,
              ⟨some 91, .ldl (.t 90) none, none⟩,
              ⟨some 92, .fld (.t 9) 1, none⟩,
              ⟨some 93, .ldl (.t 92) none, none⟩,
              ⟨some 94, .mv (.t 1), none⟩,
              ⟨some 95, .ix (.t 93) (.t 94) 2, none⟩,
              ⟨some 96, .fld (.t 95) 0, none⟩,
              ⟨some 97, .ld (.t 96) none, none⟩,
              ⟨some 98, .mv (.t 2), none⟩,
              ⟨some 99, .bld [(.d (.int .i64 0)), (.d (.int .i64 0))] [(0, 1, (.t 97)), (1, 1, (.t 98))], none⟩,
              ⟨some 100, .bsl 2 1 [(.d (.int .i64 0)), (.d (.int .i64 0))] [(0, 2, (.t 99))], none⟩,
              ⟨some 101, .appm 49 2 16 (.t 91) (.t 100), none⟩,
              ⟨some 102, .fld (.t 9) 1, none⟩,
              ⟨none, .st (.t 102) (.t 101) 1, none⟩] [7, 8, 9])
          (.seq (.reg [⟨some 104, .ldl (.t 9) (some 2), none⟩,
               ⟨some 105, .call 33 [(.t 104)], none⟩,
               ⟨some 103, .mv (.t 105), none⟩,
               ⟨some 106, .ext (.t 103) 0, none⟩,
               ⟨some 107, .ext (.t 103) 1, none⟩,
               ⟨some 10, .al [(.d (.int .i64 0)), .nils] false, none⟩,
               ⟨none, .st (.t 10) (.t 106) 2, none⟩,
               ⟨some 11, .mv (.t 107), none⟩] [7, 8, 10, 11])
           (.seq (.reg [⟨some 108, .mv (.t 8), none⟩,
                ⟨some 109, .mv (.t 11), none⟩,
                ⟨some 110, .bin .eql (.t 108) (.t 109), none⟩,
                ⟨some 111, .mv (.t 110), none⟩,
                ⟨some 112, .ldl (.t 7) (some 2), some (111, true)⟩,
                ⟨some 113, .ldl (.t 10) (some 2), some (111, true)⟩,
                ⟨some 114, .call 17 [(.t 112), (.t 113)], some (111, true)⟩,
                ⟨some 115, .pick (.t 111) (.t 114) (.c (.d (.bool false))), none⟩,
                ⟨some 116, .mv (.t 115), none⟩,
                ⟨some 117, .call 22 [], some (116, true)⟩,
                ⟨some 118, .pick (.t 116) (.t 117) (.c (.d (.bool false))), none⟩,
                ⟨some 6, .mv (.t 118), none⟩] [6])
            .ret))))))))))

def t_law19_FormUnique : List (List Nat × PT) := [([1, 2, 3], .done), ([1, 2, 3, 39], .done), ([6], .done), ([1, 2, 3, 7, 8], .done), ([1, 2, 3, 7, 8, 56], .done), ([6], .done), ([1, 2, 7, 8, 9], (.lay 6 (.one 0 (.one 1 (.one 2 (.one 3 (.one 4 (.one 5 (.one 7 .done))))))))), ([1, 2, 7, 8, 9, 78], .done), ([6], .done), ([1, 2, 7, 8, 9], .done), ([7, 8, 9], .done), ([7, 8, 10, 11], .done), ([6], .done)]

noncomputable def x_law19_FormUnique : Cx := ⟨Tryd.prog, 8, Tryd.f8, 119, [61, 101, 300012, 300017, 300028, 300041, 300045, 300051, 300052, 300058, 300060, 300064, 300072, 300081, 300091, 300093, 300104, 300112, 300113], [], [.t 6]⟩
theorem g_law19_FormUnique : Good x_law19_FormUnique := ⟨Tryd.func8, by kernel_rfl⟩
theorem rs_law19_FormUnique : x_law19_FormUnique.rs = [.t 6] := rfl
theorem k_law19_FormUnique : compC Tryd.prog 119 [61, 101, 300012, 300017, 300028, 300041, 300045, 300051, 300052, 300058, 300060, 300064, 300072, 300081, 300091, 300093, 300104, 300112, 300113] [] (Tryd.f8.body.getD .skip) t_law19_FormUnique = some (c_law19_FormUnique, []) := by kernel_rfl
theorem b_law19_FormUnique : Tryd.f8.body = some (Tryd.f8.body.getD .skip) := by kernel_rfl
theorem i_law19_FormUnique {args : List AV} {σ : Heap} {K : AV → Heap → Prop} (hl : args.length ≤ 119) (h : Run x_law19_FormUnique K [.code c_law19_FormUnique] (argF args) E σ) : ACalls Tryd.prog 8 args σ K :=
  acalls_of (cx := x_law19_FormUnique) g_law19_FormUnique b_law19_FormUnique Tryd.ntmps8 hl (compC_rc x_law19_FormUnique _ _ _ _ k_law19_FormUnique) h

/-! ### amortcost/amortcostkeep.SameLin -/
/- slots of c_keep_SameLin_L0 : [2, 3, 22, 23] -/
def c_keep_SameLin_L0 : C := (.seq (.reg [⟨some 24, .bin .lss (.t 23) (.t 22), none⟩] [2, 3, 22, 23, 24])
   (.seq (.cond (.t 24) .skip
     (.exit 0))
    (.seq (.block 1 (.seq (.reg [⟨some 25, .mv (.t 23), none⟩,
           ⟨some 5, .mv (.t 25), none⟩] [2, 3, 5, 22, 23])
       (.seq (.reg [⟨some 26, .fld (.t 2) 1, none⟩,
            ⟨some 27, .ldl (.t 26) none, none⟩,
            ⟨some 28, .mv (.t 5), none⟩,
            ⟨some 29, .ix (.t 27) (.t 28) 2, none⟩,
            ⟨some 30, .ld (.t 29) (some 2), none⟩,
            ⟨some 31, .fld (.t 3) 1, none⟩,
            ⟨some 32, .ldl (.t 31) none, none⟩,
            ⟨some 33, .mv (.t 5), none⟩,
            ⟨some 34, .ix (.t 32) (.t 33) 2, none⟩,
            ⟨some 35, .ld (.t 34) (some 2), none⟩,
            ⟨some 36, .steq true 2 (.t 30) (.t 35), none⟩] [2, 3, 22, 23, 36])
        (.cond (.t 36) (.seq (.reg [⟨some 4, .mv (.c (.d (.bool false))), none⟩] [4])
          .ret)
         .skip))))
     (.reg [⟨some 37, .bin .add (.t 23) (.c (.d (.int .i64 1))), none⟩,
         ⟨some 23, .mv (.t 37), none⟩] [2, 3, 22, 23]))))

def c_keep_SameLin : C := (.seq (.reg [⟨some 2, .box (.t 0) false, none⟩,
       ⟨some 3, .box (.t 1) false, none⟩,
       ⟨some 4, .mv (.c (.d (.bool false))), none⟩] [2, 3])
   (.seq (.seq (.reg [⟨some 6, .fld (.t 2) 0, none⟩,
         ⟨some 7, .ldl (.t 6) none, none⟩,
         ⟨some 8, .fld (.t 3) 0, none⟩,
         ⟨some 9, .ldl (.t 8) none, none⟩,
         ⟨some 10, .bin .neq (.t 7) (.t 9), none⟩,
         ⟨some 11, .mv (.t 10), none⟩,
         ⟨some 12, .fld (.t 2) 1, some (11, false)⟩,
         ⟨some 13, .ldl (.t 12) none, some (11, false)⟩,
         ⟨some 14, .len (.t 13), some (11, false)⟩,
         ⟨some 15, .fld (.t 3) 1, some (11, false)⟩,
         ⟨some 16, .ldl (.t 15) none, some (11, false)⟩,
         ⟨some 17, .len (.t 16), some (11, false)⟩,
         ⟨some 18, .bin .neq (.t 14) (.t 17), some (11, false)⟩,
         ⟨some 19, .pick (.t 11) (.c (.d (.bool true))) (.t 18), none⟩] [2, 3, 19])
     (.cond (.t 19) (.seq (.reg [⟨some 4, .mv (.c (.d (.bool false))), none⟩] [4])
       .ret)
      .skip))
    (.seq (.seq (.reg [⟨some 20, .fld (.t 2) 1, none⟩,
          ⟨some 21, .ldl (.t 20) none, none⟩,
          ⟨some 22, .len (.t 21), none⟩,
          ⟨some 23, .mv (.c (.d (.int .i64 0))), none⟩] [2, 3, 22, 23])
      (.block 0 (.loop c_keep_SameLin_L0)))
     (.seq (.reg [⟨some 4, .mv (.c (.d (.bool true))), none⟩] [4])
      .ret))))

def t_keep_SameLin : List (List Nat × PT) := [([2, 3], .done), ([2, 3, 19], .done), ([4], .done), ([2, 3, 22, 23], .done), ([2, 3, 22, 23, 24], .done), ([2, 3, 5, 22, 23], .done), ([2, 3, 22, 23, 36], .done), ([4], .done), ([2, 3, 22, 23], .done), ([4], .done)]

noncomputable def x_keep_SameLin : Cx := ⟨Tryd.prog, 17, Tryd.f17, 38, [300007, 300009, 300013, 300016, 300021, 300027, 300032], [], [.t 4]⟩
theorem g_keep_SameLin : Good x_keep_SameLin := ⟨Tryd.func17, by kernel_rfl⟩
theorem rs_keep_SameLin : x_keep_SameLin.rs = [.t 4] := rfl
theorem k_keep_SameLin : compC Tryd.prog 38 [300007, 300009, 300013, 300016, 300021, 300027, 300032] [] (Tryd.f17.body.getD .skip) t_keep_SameLin = some (c_keep_SameLin, []) := by kernel_rfl
theorem b_keep_SameLin : Tryd.f17.body = some (Tryd.f17.body.getD .skip) := by kernel_rfl
theorem i_keep_SameLin {args : List AV} {σ : Heap} {K : AV → Heap → Prop} (hl : args.length ≤ 38) (h : Run x_keep_SameLin K [.code c_keep_SameLin] (argF args) E σ) : ACalls Tryd.prog 17 args σ K :=
  acalls_of (cx := x_keep_SameLin) g_keep_SameLin b_keep_SameLin Tryd.ntmps17 hl (compC_rc x_keep_SameLin _ _ _ _ k_keep_SameLin) h

/-! ### amortcost/linear.Const -/
def c_linear_Const : C := (.seq (.reg [⟨some 2, .al [(.d (.int .i64 0)), .nils] false, none⟩] [0, 2])
   (.seq (.seq (.reg [⟨some 3, .mv (.t 0), none⟩,
         ⟨some 4, .call 49 [(.t 3)], none⟩,
         ⟨some 5, .un .not (.t 4), none⟩] [0, 2, 5])
     (.cond (.t 5) (.seq (.reg [⟨some 6, .bld [(.d (.int .i64 0)), .nils] [], none⟩,
           ⟨none, .st (.t 2) (.t 6) 2, none⟩] [2])
       .ret)
      .skip))
    (.seq (.reg [⟨some 7, .mv (.t 0), none⟩,
         ⟨some 8, .bld [(.d (.int .i64 0)), .nils] [(0, 1, (.t 7))], none⟩,
         ⟨none, .st (.t 2) (.t 8) 2, none⟩] [2])
     .ret)))

def t_linear_Const : List (List Nat × PT) := [([0, 2], .done), ([0, 2, 5], .done), ([2], .done), ([2], .done)]

noncomputable def x_linear_Const : Cx := ⟨Tryd.prog, 18, Tryd.f18, 9, [], [], [.c 2 (some 2)]⟩
theorem g_linear_Const : Good x_linear_Const := ⟨Tryd.func18, by kernel_rfl⟩
theorem rs_linear_Const : x_linear_Const.rs = [.c 2 (some 2)] := rfl
theorem k_linear_Const : compC Tryd.prog 9 [] [] (Tryd.f18.body.getD .skip) t_linear_Const = some (c_linear_Const, []) := by kernel_rfl
theorem b_linear_Const : Tryd.f18.body = some (Tryd.f18.body.getD .skip) := by kernel_rfl
theorem i_linear_Const {args : List AV} {σ : Heap} {K : AV → Heap → Prop} (hl : args.length ≤ 9) (h : Run x_linear_Const K [.code c_linear_Const] (argF args) E σ) : ACalls Tryd.prog 18 args σ K :=
  acalls_of (cx := x_linear_Const) g_linear_Const b_linear_Const Tryd.ntmps18 hl (compC_rc x_linear_Const _ _ _ _ k_linear_Const) h

/-! ### amortcost/amortcostref19.Const -/
def c_r19_Const : C := (.seq (.reg [⟨some 2, .al [(.d (.int .i64 0)), .nils] false, none⟩] [0, 2])
   (.seq (.seq (.reg [⟨some 3, .mv (.t 0), none⟩,
         ⟨some 4, .bin .lss (.t 3) (.c (.d (.int .i64 (-1048576)))), none⟩,
         ⟨some 5, .mv (.t 4), none⟩,
         ⟨some 6, .mv (.t 0), some (5, false)⟩,
         ⟨some 7, .bin .gtr (.t 6) (.c (.d (.int .i64 1048576))), some (5, false)⟩,
         ⟨some 8, .pick (.t 5) (.c (.d (.bool true))) (.t 7), none⟩] [0, 2, 8])
     (.cond (.t 8) (.seq (.reg [⟨some 9, .bld [(.d (.int .i64 0)), .nils] [], none⟩,
           ⟨none, .st (.t 2) (.t 9) 2, none⟩] [2])
       .ret)
      .skip))
    (.seq (.reg [⟨some 10, .mv (.t 0), none⟩,
         ⟨some 11, .bld [(.d (.int .i64 0)), .nils] [(0, 1, (.t 10))], none⟩,
         ⟨none, .st (.t 2) (.t 11) 2, none⟩] [2])
     .ret)))

def t_r19_Const : List (List Nat × PT) := [([0, 2], .done), ([0, 2, 8], .done), ([2], .done), ([2], .done)]

noncomputable def x_r19_Const : Cx := ⟨Tryd.prog, 19, Tryd.f19, 12, [], [], [.c 2 (some 2)]⟩
theorem g_r19_Const : Good x_r19_Const := ⟨Tryd.func19, by kernel_rfl⟩
theorem rs_r19_Const : x_r19_Const.rs = [.c 2 (some 2)] := rfl
theorem k_r19_Const : compC Tryd.prog 12 [] [] (Tryd.f19.body.getD .skip) t_r19_Const = some (c_r19_Const, []) := by kernel_rfl
theorem b_r19_Const : Tryd.f19.body = some (Tryd.f19.body.getD .skip) := by kernel_rfl
theorem i_r19_Const {args : List AV} {σ : Heap} {K : AV → Heap → Prop} (hl : args.length ≤ 12) (h : Run x_r19_Const K [.code c_r19_Const] (argF args) E σ) : ACalls Tryd.prog 19 args σ K :=
  acalls_of (cx := x_r19_Const) g_r19_Const b_r19_Const Tryd.ntmps19 hl (compC_rc x_r19_Const _ _ _ _ k_r19_Const) h

/-! ### amortcost/linear.Variable -/
def c_linear_Variable : C := (.seq (.reg [⟨some 2, .al [(.d (.int .i64 0)), .nils] false, none⟩] [0, 2])
   (.seq (.seq (.reg [⟨some 3, .mv (.t 0), none⟩,
         ⟨some 4, .call 50 [(.t 3)], none⟩,
         ⟨some 5, .un .not (.t 4), none⟩] [0, 2, 5])
     (.cond (.t 5) (.seq (.reg [⟨some 6, .bld [(.d (.int .i64 0)), .nils] [], none⟩,
           ⟨none, .st (.t 2) (.t 6) 2, none⟩] [2])
       .ret)
      .skip))
    (.seq (.reg [⟨some 7, .mv (.t 0), none⟩,
         ⟨some 8, .bld [(.d (.int .i64 0)), (.d (.int .i64 0))] [(0, 1, (.t 7)), (1, 1, (.c (.d (.int .i64 1))))], none⟩,
         ⟨some 9, .bsl 2 1 [(.d (.int .i64 0)), (.d (.int .i64 0))] [(0, 2, (.t 8))], none⟩,
         ⟨some 10, .bld [(.d (.int .i64 0)), .nils] [(1, 1, (.t 9))], none⟩,
         ⟨none, .st (.t 2) (.t 10) 2, none⟩] [2])
     .ret)))

def t_linear_Variable : List (List Nat × PT) := [([0, 2], .done), ([0, 2, 5], .done), ([2], .done), ([2], .done)]

noncomputable def x_linear_Variable : Cx := ⟨Tryd.prog, 20, Tryd.f20, 11, [], [], [.c 2 (some 2)]⟩
theorem g_linear_Variable : Good x_linear_Variable := ⟨Tryd.func20, by kernel_rfl⟩
theorem rs_linear_Variable : x_linear_Variable.rs = [.c 2 (some 2)] := rfl
theorem k_linear_Variable : compC Tryd.prog 11 [] [] (Tryd.f20.body.getD .skip) t_linear_Variable = some (c_linear_Variable, []) := by kernel_rfl
theorem b_linear_Variable : Tryd.f20.body = some (Tryd.f20.body.getD .skip) := by kernel_rfl
theorem i_linear_Variable {args : List AV} {σ : Heap} {K : AV → Heap → Prop} (hl : args.length ≤ 11) (h : Run x_linear_Variable K [.code c_linear_Variable] (argF args) E σ) : ACalls Tryd.prog 20 args σ K :=
  acalls_of (cx := x_linear_Variable) g_linear_Variable b_linear_Variable Tryd.ntmps20 hl (compC_rc x_linear_Variable _ _ _ _ k_linear_Variable) h

/-! ### amortcost/amortcostref19.Variable -/
def c_r19_Variable : C := (.seq (.reg [⟨some 2, .al [(.d (.int .i64 0)), .nils] false, none⟩] [0, 2])
   (.seq (.seq (.reg [⟨some 3, .mv (.t 0), none⟩,
         ⟨some 4, .bin .lss (.t 3) (.c (.d (.int .i64 (-1)))), none⟩,
         ⟨some 5, .mv (.t 4), none⟩,
         ⟨some 6, .mv (.t 0), some (5, false)⟩,
         ⟨some 7, .bin .geq (.t 6) (.c (.d (.int .i64 3000))), some (5, false)⟩,
         ⟨some 8, .pick (.t 5) (.c (.d (.bool true))) (.t 7), none⟩] [0, 2, 8])
     (.cond (.t 8) (.seq (.reg [⟨some 9, .bld [(.d (.int .i64 0)), .nils] [], none⟩,
           ⟨none, .st (.t 2) (.t 9) 2, none⟩] [2])
       .ret)
      .skip))
    (.seq (.reg [⟨some 10, .mv (.t 0), none⟩,
         ⟨some 11, .bld [(.d (.int .i64 0)), (.d (.int .i64 0))] [(0, 1, (.t 10)), (1, 1, (.c (.d (.int .i64 1))))], none⟩,
         ⟨some 12, .bsl 2 1 [(.d (.int .i64 0)), (.d (.int .i64 0))] [(0, 2, (.t 11))], none⟩,
         ⟨some 13, .bld [(.d (.int .i64 0)), .nils] [(1, 1, (.t 12))], none⟩,
         ⟨none, .st (.t 2) (.t 13) 2, none⟩] [2])
     .ret)))

def t_r19_Variable : List (List Nat × PT) := [([0, 2], .done), ([0, 2, 8], .done), ([2], .done), ([2], .done)]

noncomputable def x_r19_Variable : Cx := ⟨Tryd.prog, 21, Tryd.f21, 14, [], [], [.c 2 (some 2)]⟩
theorem g_r19_Variable : Good x_r19_Variable := ⟨Tryd.func21, by kernel_rfl⟩
theorem rs_r19_Variable : x_r19_Variable.rs = [.c 2 (some 2)] := rfl
theorem k_r19_Variable : compC Tryd.prog 14 [] [] (Tryd.f21.body.getD .skip) t_r19_Variable = some (c_r19_Variable, []) := by kernel_rfl
theorem b_r19_Variable : Tryd.f21.body = some (Tryd.f21.body.getD .skip) := by kernel_rfl
theorem i_r19_Variable {args : List AV} {σ : Heap} {K : AV → Heap → Prop} (hl : args.length ≤ 14) (h : Run x_r19_Variable K [.code c_r19_Variable] (argF args) E σ) : ACalls Tryd.prog 21 args σ K :=
  acalls_of (cx := x_r19_Variable) g_r19_Variable b_r19_Variable Tryd.ntmps21 hl (compC_rc x_r19_Variable _ _ _ _ k_r19_Variable) h

/-! ### amortcost/amortcostlaw19.awake -/
def c_law19_awake : C := (.seq (.reg [⟨some 0, .mv (.c (.d (.bool false))), none⟩] [])
   (.seq (.reg [⟨some 6, .call 20 [(.c (.d (.int .i64 1)))], none⟩,
        ⟨some 7, .call 20 [(.c (.d (.int .i64 2)))], none⟩,
        ⟨some 8, .call 29 [(.t 6), (.t 7)], none⟩,
        ⟨some 5, .mv (.t 8), none⟩,
        ⟨some 9, .ext (.t 5) 0, none⟩,
        ⟨some 10, .ext (.t 5) 1, none⟩,
        ⟨some 1, .al [(.d (.int .i64 0)), .nils] false, none⟩,
        ⟨none, .st (.t 1) (.t 9) 2, none⟩,
        ⟨some 2, .mv (.t 10), none⟩] [1, 2])
    (.seq (.reg [⟨some 3, .al [(.d (.int .i64 0)), .nils] false, none⟩,
         ⟨some 12, .ldl (.t 1) (some 2), none⟩,
         ⟨some 13, .call 18 [(.c (.d (.int .i64 3)))], none⟩,
         ⟨some 14, .call 27 [(.t 12), (.t 13)], none⟩,
         ⟨some 11, .mv (.t 14), none⟩,
         ⟨some 15, .ext (.t 11) 0, none⟩,
         ⟨some 16, .ext (.t 11) 1, none⟩,
         ⟨none, .st (.t 3) (.t 15) 2, none⟩,
         ⟨some 4, .mv (.t 16), none⟩] [2, 3, 4])
     (.seq (.reg [⟨some 17, .mv (.t 2), none⟩,
          ⟨some 18, .bin .eql (.t 17) (.c (.d (.int .i64 0))), none⟩,
          ⟨some 19, .mv (.t 18), none⟩,
          ⟨some 20, .mv (.t 4), some (19, true)⟩,
          ⟨some 21, .bin .eql (.t 20) (.c (.d (.int .i64 0))), some (19, true)⟩,
          ⟨some 22, .pick (.t 19) (.t 21) (.c (.d (.bool false))), none⟩,
          ⟨some 23, .mv (.t 22), none⟩,
          ⟨some 24, .ldl (.t 3) (some 2), some (23, true)⟩,
          ⟨some 25, .call 24 [(.t 24)], some (23, true)⟩,
          ⟨some 26, .bin .eql (.t 25) (.c (.d (.str [118, 49, 32, 45, 32, 118, 50, 32, 43, 32, 51]))), some (23, true)⟩,
          ⟨some 27, .pick (.t 23) (.t 26) (.c (.d (.bool false))), none⟩,
          ⟨some 0, .mv (.t 27), none⟩] [0])
      .ret))))

def t_law19_awake : List (List Nat × PT) := [([], .done), ([1, 2], .done), ([2, 3, 4], (.lay 6 (.one 0 (.one 1 (.one 2 (.one 3 (.one 4 (.one 5 (.one 7 (.one 8 .done)))))))))), ([0], .done)]

noncomputable def x_law19_awake : Cx := ⟨Tryd.prog, 22, Tryd.f22, 28, [300012, 300024], [], [.t 0]⟩
theorem g_law19_awake : Good x_law19_awake := ⟨Tryd.func22, by kernel_rfl⟩
theorem rs_law19_awake : x_law19_awake.rs = [.t 0] := rfl
theorem k_law19_awake : compC Tryd.prog 28 [300012, 300024] [] (Tryd.f22.body.getD .skip) t_law19_awake = some (c_law19_awake, []) := by kernel_rfl
theorem b_law19_awake : Tryd.f22.body = some (Tryd.f22.body.getD .skip) := by kernel_rfl
theorem i_law19_awake {args : List AV} {σ : Heap} {K : AV → Heap → Prop} (hl : args.length ≤ 28) (h : Run x_law19_awake K [.code c_law19_awake] (argF args) E σ) : ACalls Tryd.prog 22 args σ K :=
  acalls_of (cx := x_law19_awake) g_law19_awake b_law19_awake Tryd.ntmps22 hl (compC_rc x_law19_awake _ _ _ _ k_law19_awake) h

/-! ### amortcost/amortcostlaw19.small -/
/- slots of c_law19_small_L0 : [0, 3] -/
def c_law19_small_L0 : C := (.seq (.seq (.reg [⟨some 4, .mv (.t 3), none⟩,
        ⟨some 5, .mv (.t 0), none⟩,
        ⟨some 6, .len (.t 5), none⟩,
        ⟨some 7, .bin .lss (.t 4) (.t 6), none⟩,
        ⟨some 8, .mv (.t 7), none⟩,
        ⟨some 9, .mv (.t 3), some (8, true)⟩,
        ⟨some 10, .bin .lss (.t 9) (.c (.d (.int .i64 9))), some (8, true)⟩,
        ⟨some 11, .pick (.t 8) (.t 10) (.c (.d (.bool false))), none⟩] [0, 3, 11])
    (.cond (.t 11) .skip
     (.exit 0)))
   (.seq (.block 1 (.seq (.reg [⟨some 14, .mv (.t 0), none⟩,
          ⟨some 15, .mv (.t 3), none⟩,
          ⟨some 16, .ix (.t 14) (.t 15) 2, none⟩,
          ⟨some 17, .ld (.t 16) (some 2), none⟩,
          ⟨some 18, .call 36 [(.t 17)], none⟩,
          ⟨some 19, .un .not (.t 18), none⟩] [0, 3, 19])
      (.cond (.t 19) (.seq (.reg [⟨some 2, .mv (.c (.d (.bool false))), none⟩] [2])
        .ret)
       .skip)))
    (.reg [⟨some 12, .mv (.t 3), none⟩,
        ⟨some 13, .bin .add (.t 12) (.c (.d (.int .i64 1))), none⟩,
        ⟨some 3, .mv (.t 13), none⟩] [0, 3])))

def c_law19_small : C := (.seq (.reg [⟨some 2, .mv (.c (.d (.bool false))), none⟩] [0])
   (.seq (.seq (.reg [⟨some 3, .mv (.c (.d (.int .i64 0))), none⟩] [0, 3])
     (.block 0 (.loop c_law19_small_L0)))
    (.seq (.reg [⟨some 20, .mv (.t 0), none⟩,
         ⟨some 21, .len (.t 20), none⟩,
         ⟨some 22, .bin .leq (.t 21) (.c (.d (.int .i64 8))), none⟩,
         ⟨some 2, .mv (.t 22), none⟩] [2])
     .ret)))

def t_law19_small : List (List Nat × PT) := [([0], .done), ([0, 3], .done), ([0, 3, 11], .done), ([0, 3, 19], .done), ([2], .done), ([0, 3], .done), ([2], .done)]

noncomputable def x_law19_small : Cx := ⟨Tryd.prog, 23, Tryd.f23, 23, [], [], [.t 2]⟩
theorem g_law19_small : Good x_law19_small := ⟨Tryd.func23, by kernel_rfl⟩
theorem rs_law19_small : x_law19_small.rs = [.t 2] := rfl
theorem k_law19_small : compC Tryd.prog 23 [] [] (Tryd.f23.body.getD .skip) t_law19_small = some (c_law19_small, []) := by kernel_rfl
theorem b_law19_small : Tryd.f23.body = some (Tryd.f23.body.getD .skip) := by kernel_rfl
theorem i_law19_small {args : List AV} {σ : Heap} {K : AV → Heap → Prop} (hl : args.length ≤ 23) (h : Run x_law19_small K [.code c_law19_small] (argF args) E σ) : ACalls Tryd.prog 23 args σ K :=
  acalls_of (cx := x_law19_small) g_law19_small b_law19_small Tryd.ntmps23 hl (compC_rc x_law19_small _ _ _ _ k_law19_small) h

/-! ### amortcost/linear.Format -/
/- slots of c_linear_Format_L0 : [1, 3, 11, 12, 13] -/
def c_linear_Format_L0 : C := (.seq (.reg [⟨some 14, .bin .lss (.t 13) (.t 12), none⟩] [1, 3, 11, 12, 13, 14])
   (.seq (.cond (.t 14) .skip
     (.exit 0))
    (.seq (.block 1 (.seq (.reg [⟨some 15, .mv (.t 13), none⟩,
           ⟨some 16, .ix (.t 11) (.t 13) 2, none⟩,
           ⟨some 17, .ld (.t 16) (some 2), none⟩,
           ⟨some 5, .al [(.d (.int .i64 0)), (.d (.int .i64 0))] false, none⟩,
           ⟨some 4, .mv (.t 15), none⟩,
           ⟨none, .st (.t 5) (.t 17) 2, none⟩] [1, 3, 4, 5, 11, 12, 13])
       (.seq (.reg [⟨some 18, .fld (.t 5) 1, none⟩,
            ⟨some 19, .ldl (.t 18) none, none⟩,
            ⟨some 20, .mv (.t 4), none⟩,
            ⟨some 21, .bin .eql (.t 20) (.c (.d (.int .i64 0))), none⟩,
            ⟨some 22, .call 51 [(.t 3), (.t 19), (.t 21)], none⟩,
            ⟨some 6, .mv (.t 22), none⟩] [1, 3, 5, 6, 11, 12, 13])
        (.seq (.seq (.reg [⟨some 23, .mv (.t 6), none⟩,
              ⟨some 24, .bin .neq (.t 23) (.c (.d (.int .i64 1))), none⟩] [1, 3, 5, 6, 11, 12, 13, 24])
          (.cond (.t 24) (.reg [⟨some 25, .mv (.t 6), none⟩,
               ⟨some 26, .call 53 [(.t 25), (.c (.d (.int .i64 10)))], none⟩,
               ⟨some 27, .bin .add (.t 26) (.c (.d (.str [42]))), none⟩,
               ⟨some 28, .call 52 [(.t 3), (.t 27)], none⟩] [1, 3, 5, 11, 12, 13])
           .skip))
         (.seq (.reg [⟨some 29, .fld (.t 5) 0, none⟩,
              ⟨some 30, .ldl (.t 29) none, none⟩,
              ⟨some 31, .bin .eql (.t 30) (.c (.d (.int .i64 (-1)))), none⟩] [1, 3, 5, 11, 12, 13, 31])
          (.cond (.t 31) (.reg [⟨some 32, .call 52 [(.t 3), (.c (.d (.str [114, 101, 115])))], none⟩] [1, 3, 11, 12, 13])
           (.reg [⟨some 33, .fld (.t 5) 0, none⟩,
               ⟨some 34, .ldl (.t 33) none, none⟩,
               ⟨some 35, .call 54 [(.t 34)], none⟩,
               ⟨some 36, .bin .add (.c (.d (.str [118]))) (.t 35), none⟩,
               ⟨some 37, .call 52 [(.t 3), (.t 36)], none⟩] [1, 3, 11, 12, 13])))))))
     (.reg [⟨some 38, .bin .add (.t 13) (.c (.d (.int .i64 1))), none⟩,
         ⟨some 13, .mv (.t 38), none⟩] [1, 3, 11, 12, 13]))))

def c_linear_Format : C := (.seq (.reg [⟨some 1, .box (.t 0) false, none⟩,
       ⟨some 2, .mv (.c (.d (.str []))), none⟩] [1])
   (.seq (.seq (.reg [⟨some 7, .ldl (.t 1) (some 2), none⟩,
         ⟨some 8, .call 35 [(.t 7)], none⟩,
         ⟨some 9, .un .not (.t 8), none⟩] [1, 9])
     (.cond (.t 9) (.seq (.reg [⟨some 2, .mv (.c (.d (.str []))), none⟩] [2])
       .ret)
      .skip))
    (.seq (.reg [⟨some 3, .ex (.alt 73 [.nilp, .nils]) [], none⟩] [1, 3])
     (.seq (.seq (.reg [⟨some 10, .fld (.t 1) 1, none⟩,
           ⟨some 11, .ldl (.t 10) none, none⟩,
           ⟨some 12, .len (.t 11), none⟩,
           ⟨some 13, .mv (.c (.d (.int .i64 0))), none⟩] [1, 3, 11, 12, 13])
       (.block 0 (.loop c_linear_Format_L0)))
      (.seq (.seq (.reg [⟨some 39, .fld (.t 1) 0, none⟩,
            ⟨some 40, .ldl (.t 39) none, none⟩,
            ⟨some 41, .bin .neq (.t 40) (.c (.d (.int .i64 0))), none⟩,
            ⟨some 42, .mv (.t 41), none⟩,
            ⟨some 43, .fld (.t 1) 1, some (42, false)⟩,
            ⟨some 44, .ldl (.t 43) none, some (42, false)⟩,
            ⟨some 45, .len (.t 44), some (42, false)⟩,
            ⟨some 46, .bin .eql (.t 45) (.c (.d (.int .i64 0))), some (42, false)⟩,
            ⟨some 47, .pick (.t 42) (.c (.d (.bool true))) (.t 46), none⟩] [1, 3, 47])
        (.cond (.t 47) (.reg [⟨some 48, .fld (.t 1) 0, none⟩,
             ⟨some 49, .ldl (.t 48) none, none⟩,
             ⟨some 50, .fld (.t 1) 1, none⟩,
             ⟨some 51, .ldl (.t 50) none, none⟩,
             ⟨some 52, .len (.t 51), none⟩,
             ⟨some 53, .bin .eql (.t 52) (.c (.d (.int .i64 0))), none⟩,
             ⟨some 54, .call 51 [(.t 3), (.t 49), (.t 53)], none⟩,
             ⟨some 55, .call 53 [(.t 54), (.c (.d (.int .i64 10)))], none⟩,
             ⟨some 56, .call 52 [(.t 3), (.t 55)], none⟩] [3])
         .skip))
       (.seq (.reg [⟨some 57, .call 55 [(.t 3)], none⟩,
            ⟨some 2, .mv (.t 57), none⟩] [2])
        .ret))))))

def t_linear_Format : List (List Nat × PT) := [([1], .done), ([1, 9], .done), ([2], .done), ([1, 3], .done), ([1, 3, 11, 12, 13], .done), ([1, 3, 11, 12, 13, 14], .done), ([1, 3, 4, 5, 11, 12, 13], .done), ([1, 3, 5, 6, 11, 12, 13], .done), ([1, 3, 5, 6, 11, 12, 13, 24], .done), ([1, 3, 5, 11, 12, 13], .done), ([1, 3, 5, 11, 12, 13, 31], .done), ([1, 3, 11, 12, 13], .done), ([1, 3, 11, 12, 13], .done), ([1, 3, 11, 12, 13], .done), ([1, 3, 47], .done), ([3], .done), ([2], .done)]

noncomputable def x_linear_Format : Cx := ⟨Tryd.prog, 24, Tryd.f24, 58, [3, 300007, 300011, 300019, 300030, 300034, 300040, 300044, 300049, 300051], [], [.t 2]⟩
theorem g_linear_Format : Good x_linear_Format := ⟨Tryd.func24, by kernel_rfl⟩
theorem rs_linear_Format : x_linear_Format.rs = [.t 2] := rfl
theorem k_linear_Format : compC Tryd.prog 58 [3, 300007, 300011, 300019, 300030, 300034, 300040, 300044, 300049, 300051] [] (Tryd.f24.body.getD .skip) t_linear_Format = some (c_linear_Format, []) := by kernel_rfl
theorem b_linear_Format : Tryd.f24.body = some (Tryd.f24.body.getD .skip) := by kernel_rfl
theorem i_linear_Format {args : List AV} {σ : Heap} {K : AV → Heap → Prop} (hl : args.length ≤ 58) (h : Run x_linear_Format K [.code c_linear_Format] (argF args) E σ) : ACalls Tryd.prog 24 args σ K :=
  acalls_of (cx := x_linear_Format) g_linear_Format b_linear_Format Tryd.ntmps24 hl (compC_rc x_linear_Format _ _ _ _ k_linear_Format) h

/-! ### amortcost/amortcostref19.Format -/
/- slots of c_r19_Format_L0 : [1, 3, 4] -/
def c_r19_Format_L0 : C := (.seq (.seq (.reg [⟨some 11, .mv (.t 4), none⟩,
        ⟨some 12, .fld (.t 1) 1, none⟩,
        ⟨some 13, .ldl (.t 12) none, none⟩,
        ⟨some 14, .len (.t 13), none⟩,
        ⟨some 15, .bin .leq (.t 11) (.t 14), none⟩] [1, 3, 4, 15])
    (.cond (.t 15) .skip
     (.exit 0)))
   (.seq (.block 1 (.seq (.reg [⟨some 18, .fld (.t 1) 0, none⟩,
          ⟨some 19, .ldl (.t 18) none, none⟩,
          ⟨some 5, .mv (.t 19), none⟩,
          ⟨some 6, .mv (.c (.d (.str []))), none⟩] [1, 3, 4, 5, 6])
      (.seq (.seq (.reg [⟨some 20, .mv (.t 4), none⟩,
            ⟨some 21, .fld (.t 1) 1, none⟩,
            ⟨some 22, .ldl (.t 21) none, none⟩,
            ⟨some 23, .len (.t 22), none⟩,
            ⟨some 24, .bin .lss (.t 20) (.t 23), none⟩] [1, 3, 4, 5, 6, 24])
        (.cond (.t 24) (.seq (.reg [⟨some 25, .fld (.t 1) 1, none⟩,
              ⟨some 26, .ldl (.t 25) none, none⟩,
              ⟨some 27, .mv (.t 4), none⟩,
              ⟨some 28, .ix (.t 26) (.t 27) 2, none⟩,
              ⟨some 29, .fld (.t 28) 1, none⟩,
              ⟨some 30, .ld (.t 29) none, none⟩,
              ⟨some 5, .mv (.t 30), none⟩] [1, 3, 4, 5])
          (.seq (.reg [⟨some 6, .mv (.c (.d (.str [114, 101, 115]))), none⟩] [1, 3, 4, 5, 6])
           (.seq (.reg [⟨some 31, .fld (.t 1) 1, none⟩,
                ⟨some 32, .ldl (.t 31) none, none⟩,
                ⟨some 33, .mv (.t 4), none⟩,
                ⟨some 34, .ix (.t 32) (.t 33) 2, none⟩,
                ⟨some 35, .fld (.t 34) 0, none⟩,
                ⟨some 36, .ld (.t 35) none, none⟩,
                ⟨some 37, .bin .geq (.t 36) (.c (.d (.int .i64 0))), none⟩] [1, 3, 4, 5, 6, 37])
            (.cond (.t 37) (.reg [⟨some 38, .fld (.t 1) 1, none⟩,
                 ⟨some 39, .ldl (.t 38) none, none⟩,
                 ⟨some 40, .mv (.t 4), none⟩,
                 ⟨some 41, .ix (.t 39) (.t 40) 2, none⟩,
                 ⟨some 42, .fld (.t 41) 0, none⟩,
                 ⟨some 43, .ld (.t 42) none, none⟩,
                 ⟨some 44, .call 56 [(.t 43)], none⟩,
                 ⟨some 45, .bin .add (.c (.d (.str [118]))) (.t 44), none⟩,
                 ⟨some 6, .mv (.t 45), none⟩] [1, 3, 4, 5, 6])
             .skip))))
         (.seq (.reg [⟨some 46, .mv (.t 5), none⟩,
              ⟨some 47, .bin .eql (.t 46) (.c (.d (.int .i64 0))), none⟩,
              ⟨some 48, .mv (.t 47), none⟩,
              ⟨some 49, .mv (.t 4), some (48, true)⟩,
              ⟨some 50, .bin .gtr (.t 49) (.c (.d (.int .i64 0))), some (48, true)⟩,
              ⟨some 51, .pick (.t 48) (.t 50) (.c (.d (.bool false))), none⟩] [1, 3, 4, 5, 6, 51])
          (.cond (.t 51) (.exit 0)
           .skip))))
       (.seq (.block 2 (.seq (.reg [⟨some 53, .mv (.t 4), none⟩,
              ⟨some 54, .bin .eql (.t 53) (.c (.d (.int .i64 0))), none⟩,
              ⟨some 55, .mv (.t 54), none⟩,
              ⟨some 56, .mv (.t 5), some (55, true)⟩,
              ⟨some 57, .bin .lss (.t 56) (.c (.d (.int .i64 0))), some (55, true)⟩,
              ⟨some 58, .pick (.t 55) (.t 57) (.c (.d (.bool false))), none⟩,
              ⟨some 52, .mv (.t 58), none⟩] [1, 3, 4, 5, 6, 52])
          (.cond (.t 52) (.reg [⟨some 59, .mv (.t 3), none⟩,
               ⟨some 60, .bin .add (.t 59) (.c (.d (.str [45]))), none⟩,
               ⟨some 3, .mv (.t 60), none⟩] [1, 3, 4, 5, 6])
           (.seq (.reg [⟨some 62, .mv (.t 4), none⟩,
                ⟨some 63, .bin .gtr (.t 62) (.c (.d (.int .i64 0))), none⟩,
                ⟨some 64, .mv (.t 63), none⟩,
                ⟨some 65, .mv (.t 5), some (64, true)⟩,
                ⟨some 66, .bin .lss (.t 65) (.c (.d (.int .i64 0))), some (64, true)⟩,
                ⟨some 67, .pick (.t 64) (.t 66) (.c (.d (.bool false))), none⟩,
                ⟨some 61, .mv (.t 67), none⟩] [1, 3, 4, 5, 6, 61])
            (.cond (.t 61) (.reg [⟨some 68, .mv (.t 3), none⟩,
                 ⟨some 69, .bin .add (.t 68) (.c (.d (.str [32, 45, 32]))), none⟩,
                 ⟨some 3, .mv (.t 69), none⟩] [1, 3, 4, 5, 6])
             (.seq (.reg [⟨some 71, .mv (.t 4), none⟩,
                  ⟨some 72, .bin .gtr (.t 71) (.c (.d (.int .i64 0))), none⟩,
                  ⟨some 70, .mv (.t 72), none⟩] [1, 3, 4, 5, 6, 70])
              (.cond (.t 70) (.reg [⟨some 73, .mv (.t 3), none⟩,
                   ⟨some 74, .bin .add (.t 73) (.c (.d (.str [32, 43, 32]))), none⟩,
                   ⟨some 3, .mv (.t 74), none⟩] [1, 3, 4, 5, 6])
               .skip)))))))
        (.seq (.reg [⟨some 75, .mv (.t 5), none⟩,
             ⟨some 7, .mv (.t 75), none⟩] [1, 3, 4, 6, 7])
         (.seq (.seq (.reg [⟨some 76, .mv (.t 7), none⟩,
               ⟨some 77, .bin .lss (.t 76) (.c (.d (.int .i64 0))), none⟩] [1, 3, 4, 6, 7, 77])
           (.cond (.t 77) (.reg [⟨some 78, .mv (.t 7), none⟩,
                ⟨some 79, .un .neg (.t 78), none⟩,
                ⟨some 7, .mv (.t 79), none⟩] [1, 3, 4, 6, 7])
            .skip))
          (.block 3 (.seq (.reg [⟨some 88, .mv (.t 6), none⟩,
                ⟨some 89, .bin .eql (.t 88) (.c (.d (.str []))), none⟩,
                ⟨some 87, .mv (.t 89), none⟩] [1, 3, 4, 6, 7, 87])
            (.cond (.t 87) (.reg [⟨some 90, .mv (.t 3), none⟩,
                 ⟨some 91, .mv (.t 7), none⟩,
                 ⟨some 92, .call 56 [(.t 91)], none⟩,
                 ⟨some 93, .bin .add (.t 90) (.t 92), none⟩,
                 ⟨some 3, .mv (.t 93), none⟩] [1, 3, 4])
             (.seq (.reg [⟨some 95, .mv (.t 7), none⟩,
                  ⟨some 96, .bin .eql (.t 95) (.c (.d (.int .i64 1))), none⟩,
                  ⟨some 94, .mv (.t 96), none⟩] [1, 3, 4, 6, 7, 94])
              (.cond (.t 94) (.reg [⟨some 97, .mv (.t 3), none⟩,
                   ⟨some 98, .mv (.t 6), none⟩,
                   ⟨some 99, .bin .add (.t 97) (.t 98), none⟩,
                   ⟨some 3, .mv (.t 99), none⟩] [1, 3, 4])
               (.reg [⟨some 80, .mv (.t 3), none⟩,
                   ⟨some 81, .mv (.t 7), none⟩,
                   ⟨some 82, .call 56 [(.t 81)], none⟩,
                   ⟨some 83, .bin .add (.t 82) (.c (.d (.str [42]))), none⟩,
                   ⟨some 84, .mv (.t 6), none⟩,
                   ⟨some 85, .bin .add (.t 83) (.t 84), none⟩,
                   ⟨some 86, .bin .add (.t 80) (.t 85), none⟩,
                   ⟨some 3, .mv (.t 86), none⟩] [1, 3, 4]))))))))))))
    (.reg [⟨some 16, .mv (.t 4), none⟩,
        ⟨some 17, .bin .add (.t 16) (.c (.d (.int .i64 1))), none⟩,
        ⟨some 4, .mv (.t 17), none⟩] [1, 3, 4])))

def c_r19_Format : C := (.seq (.reg [⟨some 1, .box (.t 0) false, none⟩,
       ⟨some 2, .mv (.c (.d (.str []))), none⟩] [1])
   (.seq (.seq (.reg [⟨some 8, .ldl (.t 1) (some 2), none⟩,
         ⟨some 9, .call 26 [(.t 8)], none⟩,
         ⟨some 10, .un .not (.t 9), none⟩] [1, 10])
     (.cond (.t 10) (.seq (.reg [⟨some 2, .mv (.c (.d (.str []))), none⟩] [2])
       .ret)
      .skip))
    (.seq (.reg [⟨some 3, .mv (.c (.d (.str []))), none⟩] [1, 3])
     (.seq (.seq (.reg [⟨some 4, .mv (.c (.d (.int .i64 0))), none⟩] [1, 3, 4])
       (.block 0 (.loop c_r19_Format_L0)))
      (.seq (.reg [⟨some 100, .mv (.t 3), none⟩,
           ⟨some 2, .mv (.t 100), none⟩] [2])
       .ret)))))

def t_r19_Format : List (List Nat × PT) := [([1], .done), ([1, 10], .done), ([2], .done), ([1, 3], .done), ([1, 3, 4], .done), ([1, 3, 4, 15], .done), ([1, 3, 4, 5, 6], .done), ([1, 3, 4, 5, 6, 24], .done), ([1, 3, 4, 5], .done), ([1, 3, 4, 5, 6], .done), ([1, 3, 4, 5, 6, 37], .done), ([1, 3, 4, 5, 6], .done), ([1, 3, 4, 5, 6, 51], .done), ([1, 3, 4, 5, 6, 52], .done), ([1, 3, 4, 5, 6], .done), ([1, 3, 4, 5, 6, 61], .done), ([1, 3, 4, 5, 6], .done), ([1, 3, 4, 5, 6, 70], .done), ([1, 3, 4, 5, 6], .done), ([1, 3, 4, 6, 7], .done), ([1, 3, 4, 6, 7, 77], .done), ([1, 3, 4, 6, 7], .done), ([1, 3, 4, 6, 7, 87], .done), ([1, 3, 4], .done), ([1, 3, 4, 6, 7, 94], .done), ([1, 3, 4], .done), ([1, 3, 4], .done), ([1, 3, 4], .done), ([2], .done)]

noncomputable def x_r19_Format : Cx := ⟨Tryd.prog, 25, Tryd.f25, 101, [300008, 300013, 300019, 300022, 300026, 300032, 300039], [], [.t 2]⟩
theorem g_r19_Format : Good x_r19_Format := ⟨Tryd.func25, by kernel_rfl⟩
theorem rs_r19_Format : x_r19_Format.rs = [.t 2] := rfl
theorem k_r19_Format : compC Tryd.prog 101 [300008, 300013, 300019, 300022, 300026, 300032, 300039] [] (Tryd.f25.body.getD .skip) t_r19_Format = some (c_r19_Format, []) := by kernel_rfl
theorem b_r19_Format : Tryd.f25.body = some (Tryd.f25.body.getD .skip) := by kernel_rfl
theorem i_r19_Format {args : List AV} {σ : Heap} {K : AV → Heap → Prop} (hl : args.length ≤ 101) (h : Run x_r19_Format K [.code c_r19_Format] (argF args) E σ) : ACalls Tryd.prog 25 args σ K :=
  acalls_of (cx := x_r19_Format) g_r19_Format b_r19_Format Tryd.ntmps25 hl (compC_rc x_r19_Format _ _ _ _ k_r19_Format) h

/-! ### amortcost/amortcostref19.Valid -/
/- slots of c_r19_Valid_L0 : [1, 20, 21, 22] -/
def c_r19_Valid_L0 : C := (.seq (.reg [⟨some 23, .bin .lss (.t 22) (.t 21), none⟩] [1, 20, 21, 22, 23])
   (.seq (.cond (.t 23) .skip
     (.exit 0))
    (.seq (.block 1 (.seq (.reg [⟨some 24, .mv (.t 22), none⟩,
           ⟨some 25, .ix (.t 20) (.t 22) 2, none⟩,
           ⟨some 26, .ld (.t 25) (some 2), none⟩,
           ⟨some 4, .al [(.d (.int .i64 0)), (.d (.int .i64 0))] false, none⟩,
           ⟨some 3, .mv (.t 24), none⟩,
           ⟨none, .st (.t 4) (.t 26) 2, none⟩] [1, 3, 4, 20, 21, 22])
       (.seq (.reg [⟨some 27, .fld (.t 4) 0, none⟩,
            ⟨some 28, .ldl (.t 27) none, none⟩,
            ⟨some 29, .bin .lss (.t 28) (.c (.d (.int .i64 (-1)))), none⟩,
            ⟨some 30, .mv (.t 29), none⟩,
            ⟨some 31, .fld (.t 4) 0, some (30, false)⟩,
            ⟨some 32, .ldl (.t 31) none, some (30, false)⟩,
            ⟨some 33, .bin .geq (.t 32) (.c (.d (.int .i64 3000))), some (30, false)⟩,
            ⟨some 34, .pick (.t 30) (.c (.d (.bool true))) (.t 33), none⟩,
            ⟨some 35, .mv (.t 34), none⟩,
            ⟨some 36, .fld (.t 4) 1, some (35, false)⟩,
            ⟨some 37, .ldl (.t 36) none, some (35, false)⟩,
            ⟨some 38, .bin .eql (.t 37) (.c (.d (.int .i64 0))), some (35, false)⟩,
            ⟨some 39, .pick (.t 35) (.c (.d (.bool true))) (.t 38), none⟩,
            ⟨some 40, .mv (.t 39), none⟩,
            ⟨some 41, .fld (.t 4) 1, some (40, false)⟩,
            ⟨some 42, .ldl (.t 41) none, some (40, false)⟩,
            ⟨some 43, .bin .lss (.t 42) (.c (.d (.int .i64 (-1048576)))), some (40, false)⟩,
            ⟨some 44, .pick (.t 40) (.c (.d (.bool true))) (.t 43), none⟩,
            ⟨some 45, .mv (.t 44), none⟩,
            ⟨some 46, .fld (.t 4) 1, some (45, false)⟩,
            ⟨some 47, .ldl (.t 46) none, some (45, false)⟩,
            ⟨some 48, .bin .gtr (.t 47) (.c (.d (.int .i64 1048576))), some (45, false)⟩,
            ⟨some 49, .pick (.t 45) (.c (.d (.bool true))) (.t 48), none⟩,
            ⟨some 50, .mv (.t 49), none⟩,
            ⟨some 51, .mv (.t 3), some (50, false)⟩,
            ⟨some 52, .bin .gtr (.t 51) (.c (.d (.int .i64 0))), some (50, false)⟩,
            ⟨some 53, .mv (.t 52), some (50, false)⟩,
            ⟨some 54, .fld (.t 1) 1, some (53, true)⟩,
            ⟨some 55, .ldl (.t 54) none, some (53, true)⟩,
            ⟨some 56, .mv (.t 3), some (53, true)⟩,
            ⟨some 57, .bin .sub (.t 56) (.c (.d (.int .i64 1))), some (53, true)⟩,
            ⟨some 58, .ix (.t 55) (.t 57) 2, some (53, true)⟩,
            ⟨some 59, .fld (.t 58) 0, some (53, true)⟩,
            ⟨some 60, .ld (.t 59) none, some (53, true)⟩,
            ⟨some 61, .fld (.t 4) 0, some (53, true)⟩,
            ⟨some 62, .ldl (.t 61) none, some (53, true)⟩,
            ⟨some 63, .bin .geq (.t 60) (.t 62), some (53, true)⟩,
            ⟨some 64, .pick (.t 53) (.t 63) (.c (.d (.bool false))), some (50, false)⟩,
            ⟨some 65, .pick (.t 50) (.c (.d (.bool true))) (.t 64), none⟩] [1, 20, 21, 22, 65])
        (.cond (.t 65) (.seq (.reg [⟨some 2, .mv (.c (.d (.bool false))), none⟩] [2])
          .ret)
         .skip))))
     (.reg [⟨some 66, .bin .add (.t 22) (.c (.d (.int .i64 1))), none⟩,
         ⟨some 22, .mv (.t 66), none⟩] [1, 20, 21, 22]))))

def c_r19_Valid : C := (.seq (.reg [⟨some 1, .box (.t 0) false, none⟩,
       ⟨some 2, .mv (.c (.d (.bool false))), none⟩] [1])
   (.seq (.seq (.reg [⟨some 5, .fld (.t 1) 1, none⟩,
         ⟨some 6, .ldl (.t 5) none, none⟩,
         ⟨some 7, .len (.t 6), none⟩,
         ⟨some 8, .bin .gtr (.t 7) (.c (.d (.int .i64 16))), none⟩,
         ⟨some 9, .mv (.t 8), none⟩,
         ⟨some 10, .fld (.t 1) 0, some (9, false)⟩,
         ⟨some 11, .ldl (.t 10) none, some (9, false)⟩,
         ⟨some 12, .bin .lss (.t 11) (.c (.d (.int .i64 (-1048576)))), some (9, false)⟩,
         ⟨some 13, .pick (.t 9) (.c (.d (.bool true))) (.t 12), none⟩,
         ⟨some 14, .mv (.t 13), none⟩,
         ⟨some 15, .fld (.t 1) 0, some (14, false)⟩,
         ⟨some 16, .ldl (.t 15) none, some (14, false)⟩,
         ⟨some 17, .bin .gtr (.t 16) (.c (.d (.int .i64 1048576))), some (14, false)⟩,
         ⟨some 18, .pick (.t 14) (.c (.d (.bool true))) (.t 17), none⟩] [1, 18])
     (.cond (.t 18) (.seq (.reg [⟨some 2, .mv (.c (.d (.bool false))), none⟩] [2])
       .ret)
      .skip))
    (.seq (.seq (.reg [⟨some 19, .fld (.t 1) 1, none⟩,
          ⟨some 20, .ldl (.t 19) none, none⟩,
          ⟨some 21, .len (.t 20), none⟩,
          ⟨some 22, .mv (.c (.d (.int .i64 0))), none⟩] [1, 20, 21, 22])
      (.block 0 (.loop c_r19_Valid_L0)))
     (.seq (.reg [⟨some 2, .mv (.c (.d (.bool true))), none⟩] [2])
      .ret))))

def t_r19_Valid : List (List Nat × PT) := [([1], .done), ([1, 18], .done), ([2], .done), ([1, 20, 21, 22], .done), ([1, 20, 21, 22, 23], .done), ([1, 3, 4, 20, 21, 22], .done), ([1, 20, 21, 22, 65], .done), ([2], .done), ([1, 20, 21, 22], .done), ([2], .done)]

noncomputable def x_r19_Valid : Cx := ⟨Tryd.prog, 26, Tryd.f26, 67, [300006, 300011, 300016, 300020, 300028, 300032, 300037, 300042, 300047, 300055, 300062], [], [.t 2]⟩
theorem g_r19_Valid : Good x_r19_Valid := ⟨Tryd.func26, by kernel_rfl⟩
theorem rs_r19_Valid : x_r19_Valid.rs = [.t 2] := rfl
theorem k_r19_Valid : compC Tryd.prog 67 [300006, 300011, 300016, 300020, 300028, 300032, 300037, 300042, 300047, 300055, 300062] [] (Tryd.f26.body.getD .skip) t_r19_Valid = some (c_r19_Valid, []) := by kernel_rfl
theorem b_r19_Valid : Tryd.f26.body = some (Tryd.f26.body.getD .skip) := by kernel_rfl
theorem i_r19_Valid {args : List AV} {σ : Heap} {K : AV → Heap → Prop} (hl : args.length ≤ 67) (h : Run x_r19_Valid K [.code c_r19_Valid] (argF args) E σ) : ACalls Tryd.prog 26 args σ K :=
  acalls_of (cx := x_r19_Valid) g_r19_Valid b_r19_Valid Tryd.ntmps26 hl (compC_rc x_r19_Valid _ _ _ _ k_r19_Valid) h

/-! ### amortcost/linear.Add -/
def c_linear_Add : C := (.seq (.reg [⟨some 2, .box (.t 0) false, none⟩,
       ⟨some 3, .box (.t 1) false, none⟩,
       ⟨some 4, .al [(.d (.int .i64 0)), .nils] false, none⟩,
       ⟨some 5, .mv (.c (.d (.int .i64 0))), none⟩] [2, 3, 4])
   (.seq (.seq (.reg [⟨some 6, .ldl (.t 2) (some 2), none⟩,
         ⟨some 7, .call 35 [(.t 6)], none⟩,
         ⟨some 8, .un .not (.t 7), none⟩,
         ⟨some 9, .mv (.t 8), none⟩,
         ⟨some 10, .ldl (.t 3) (some 2), some (9, false)⟩,
         ⟨some 11, .call 35 [(.t 10)], some (9, false)⟩,
         ⟨some 12, .un .not (.t 11), some (9, false)⟩,
         ⟨some 13, .pick (.t 9) (.c (.d (.bool true))) (.t 12), none⟩] [2, 3, 4, 13])
     (.cond (.t 13) (.seq (.reg [⟨some 14, .bld [(.d (.int .i64 0)), .nils] [], none⟩,
           ⟨none, .st (.t 4) (.t 14) 2, none⟩,
           ⟨some 5, .mv (.c (.d (.int .i64 1))), none⟩] [4, 5])
       .ret)
      .skip))
    (.seq (.reg [⟨some 15, .fld (.t 2) 0, none⟩,
         ⟨some 16, .ldl (.t 15) none, none⟩,
         ⟨some 17, .fld (.t 3) 0, none⟩,
         ⟨some 18, .ldl (.t 17) none, none⟩,
         ⟨some 19, .bin .add (.t 16) (.t 18), none⟩,
         ⟨some 20, .fld (.t 2) 1, none⟩,
         ⟨some 21, .ldl (.t 20) none, none⟩,
         ⟨some 22, .fld (.t 3) 1, none⟩,
         ⟨some 23, .ldl (.t 22) none, none⟩,
         ⟨some 24, .bsl 1 2 [.nils, .nils] [(0, 1, (.t 21)), (1, 1, (.t 23))], none⟩,
         ⟨some 25, .call 58 [(.t 24)], none⟩,
         ⟨some 26, .call 57 [(.t 19), (.t 25)], none⟩,
         ⟨some 27, .ext (.t 26) 0, none⟩,
         ⟨some 28, .ext (.t 26) 1, none⟩,
         ⟨none, .st (.t 4) (.t 27) 2, none⟩,
         ⟨some 5, .mv (.t 28), none⟩] [4, 5])
     .ret)))

def t_linear_Add : List (List Nat × PT) := [([2, 3, 4], .done), ([2, 3, 4, 13], .done), ([4, 5], .done), ([4, 5], .done)]

noncomputable def x_linear_Add : Cx := ⟨Tryd.prog, 27, Tryd.f27, 29, [300006, 300010, 300016, 300018, 300021, 300023], [], [.c 4 (some 2), .t 5]⟩
theorem g_linear_Add : Good x_linear_Add := ⟨Tryd.func27, by kernel_rfl⟩
theorem rs_linear_Add : x_linear_Add.rs = [.c 4 (some 2), .t 5] := rfl
theorem k_linear_Add : compC Tryd.prog 29 [300006, 300010, 300016, 300018, 300021, 300023] [] (Tryd.f27.body.getD .skip) t_linear_Add = some (c_linear_Add, []) := by kernel_rfl
theorem b_linear_Add : Tryd.f27.body = some (Tryd.f27.body.getD .skip) := by kernel_rfl
theorem i_linear_Add {args : List AV} {σ : Heap} {K : AV → Heap → Prop} (hl : args.length ≤ 29) (h : Run x_linear_Add K [.code c_linear_Add] (argF args) E σ) : ACalls Tryd.prog 27 args σ K :=
  acalls_of (cx := x_linear_Add) g_linear_Add b_linear_Add Tryd.ntmps27 hl (compC_rc x_linear_Add _ _ _ _ k_linear_Add) h

/-! ### amortcost/amortcostref19.Add -/
def c_r19_Add : C := (.seq (.reg [⟨some 2, .box (.t 0) false, none⟩,
       ⟨some 3, .box (.t 1) false, none⟩,
       ⟨some 4, .al [(.d (.int .i64 0)), .nils] false, none⟩,
       ⟨some 5, .mv (.c (.d (.int .i64 0))), none⟩] [2, 3, 4])
   (.seq (.seq (.reg [⟨some 6, .ldl (.t 2) (some 2), none⟩,
         ⟨some 7, .call 26 [(.t 6)], none⟩,
         ⟨some 8, .un .not (.t 7), none⟩,
         ⟨some 9, .mv (.t 8), none⟩,
         ⟨some 10, .ldl (.t 3) (some 2), some (9, false)⟩,
         ⟨some 11, .call 26 [(.t 10)], some (9, false)⟩,
         ⟨some 12, .un .not (.t 11), some (9, false)⟩,
         ⟨some 13, .pick (.t 9) (.c (.d (.bool true))) (.t 12), none⟩] [2, 3, 4, 13])
     (.cond (.t 13) (.seq (.reg [⟨some 14, .bld [(.d (.int .i64 0)), .nils] [], none⟩,
           ⟨none, .st (.t 4) (.t 14) 2, none⟩,
           ⟨some 5, .mv (.c (.d (.int .i64 1))), none⟩] [4, 5])
       .ret)
      .skip))
    (.seq (.reg [⟨some 15, .ldl (.t 2) (some 2), none⟩,
         ⟨some 16, .ldl (.t 3) (some 2), none⟩,
         ⟨some 17, .call 60 [(.t 15), (.t 16), (.c (.d (.int .i64 1)))], none⟩,
         ⟨some 18, .call 59 [(.t 17)], none⟩,
         ⟨some 19, .ext (.t 18) 0, none⟩,
         ⟨some 20, .ext (.t 18) 1, none⟩,
         ⟨none, .st (.t 4) (.t 19) 2, none⟩,
         ⟨some 5, .mv (.t 20), none⟩] [4, 5])
     .ret)))

def t_r19_Add : List (List Nat × PT) := [([2, 3, 4], .done), ([2, 3, 4, 13], .done), ([4, 5], .done), ([4, 5], .done)]

noncomputable def x_r19_Add : Cx := ⟨Tryd.prog, 28, Tryd.f28, 21, [300006, 300010, 300015, 300016], [], [.c 4 (some 2), .t 5]⟩
theorem g_r19_Add : Good x_r19_Add := ⟨Tryd.func28, by kernel_rfl⟩
theorem rs_r19_Add : x_r19_Add.rs = [.c 4 (some 2), .t 5] := rfl
theorem k_r19_Add : compC Tryd.prog 21 [300006, 300010, 300015, 300016] [] (Tryd.f28.body.getD .skip) t_r19_Add = some (c_r19_Add, []) := by kernel_rfl
theorem b_r19_Add : Tryd.f28.body = some (Tryd.f28.body.getD .skip) := by kernel_rfl
theorem i_r19_Add {args : List AV} {σ : Heap} {K : AV → Heap → Prop} (hl : args.length ≤ 21) (h : Run x_r19_Add K [.code c_r19_Add] (argF args) E σ) : ACalls Tryd.prog 28 args σ K :=
  acalls_of (cx := x_r19_Add) g_r19_Add b_r19_Add Tryd.ntmps28 hl (compC_rc x_r19_Add _ _ _ _ k_r19_Add) h

/-! ### amortcost/linear.Sub -/
def c_linear_Sub : C := (.seq (.reg [⟨some 2, .box (.t 0) false, none⟩,
       ⟨some 3, .box (.t 1) false, none⟩,
       ⟨some 4, .al [(.d (.int .i64 0)), .nils] false, none⟩,
       ⟨some 5, .mv (.c (.d (.int .i64 0))), none⟩] [2, 3, 4])
   (.seq (.seq (.reg [⟨some 6, .ldl (.t 2) (some 2), none⟩,
         ⟨some 7, .call 35 [(.t 6)], none⟩,
         ⟨some 8, .un .not (.t 7), none⟩,
         ⟨some 9, .mv (.t 8), none⟩,
         ⟨some 10, .ldl (.t 3) (some 2), some (9, false)⟩,
         ⟨some 11, .call 35 [(.t 10)], some (9, false)⟩,
         ⟨some 12, .un .not (.t 11), some (9, false)⟩,
         ⟨some 13, .pick (.t 9) (.c (.d (.bool true))) (.t 12), none⟩] [2, 3, 4, 13])
     (.cond (.t 13) (.seq (.reg [⟨some 14, .bld [(.d (.int .i64 0)), .nils] [], none⟩,
           ⟨none, .st (.t 4) (.t 14) 2, none⟩,
           ⟨some 5, .mv (.c (.d (.int .i64 1))), none⟩] [4, 5])
       .ret)
      .skip))
    (.seq (.reg [⟨some 15, .fld (.t 2) 0, none⟩,
         ⟨some 16, .ldl (.t 15) none, none⟩,
         ⟨some 17, .fld (.t 3) 0, none⟩,
         ⟨some 18, .ldl (.t 17) none, none⟩,
         ⟨some 19, .bin .sub (.t 16) (.t 18), none⟩,
         ⟨some 20, .fld (.t 2) 1, none⟩,
         ⟨some 21, .ldl (.t 20) none, none⟩,
         ⟨some 22, .fld (.t 3) 1, none⟩,
         ⟨some 23, .ldl (.t 22) none, none⟩,
         ⟨some 24, .call 61 [(.t 23), (.c (.d (.int .i64 (-1))))], none⟩,
         ⟨some 25, .bsl 1 2 [.nils, .nils] [(0, 1, (.t 21)), (1, 1, (.t 24))], none⟩,
         ⟨some 26, .call 58 [(.t 25)], none⟩,
         ⟨some 27, .call 57 [(.t 19), (.t 26)], none⟩,
         ⟨some 28, .ext (.t 27) 0, none⟩,
         ⟨some 29, .ext (.t 27) 1, none⟩,
         ⟨none, .st (.t 4) (.t 28) 2, none⟩,
         ⟨some 5, .mv (.t 29), none⟩] [4, 5])
     .ret)))

def t_linear_Sub : List (List Nat × PT) := [([2, 3, 4], .done), ([2, 3, 4, 13], .done), ([4, 5], .done), ([4, 5], .done)]

noncomputable def x_linear_Sub : Cx := ⟨Tryd.prog, 29, Tryd.f29, 30, [300006, 300010, 300016, 300018, 300021, 300023], [], [.c 4 (some 2), .t 5]⟩
theorem g_linear_Sub : Good x_linear_Sub := ⟨Tryd.func29, by kernel_rfl⟩
theorem rs_linear_Sub : x_linear_Sub.rs = [.c 4 (some 2), .t 5] := rfl
theorem k_linear_Sub : compC Tryd.prog 30 [300006, 300010, 300016, 300018, 300021, 300023] [] (Tryd.f29.body.getD .skip) t_linear_Sub = some (c_linear_Sub, []) := by kernel_rfl
theorem b_linear_Sub : Tryd.f29.body = some (Tryd.f29.body.getD .skip) := by kernel_rfl
theorem i_linear_Sub {args : List AV} {σ : Heap} {K : AV → Heap → Prop} (hl : args.length ≤ 30) (h : Run x_linear_Sub K [.code c_linear_Sub] (argF args) E σ) : ACalls Tryd.prog 29 args σ K :=
  acalls_of (cx := x_linear_Sub) g_linear_Sub b_linear_Sub Tryd.ntmps29 hl (compC_rc x_linear_Sub _ _ _ _ k_linear_Sub) h

/-! ### amortcost/amortcostref19.Sub -/
def c_r19_Sub : C := (.seq (.reg [⟨some 2, .box (.t 0) false, none⟩,
       ⟨some 3, .box (.t 1) false, none⟩,
       ⟨some 4, .al [(.d (.int .i64 0)), .nils] false, none⟩,
       ⟨some 5, .mv (.c (.d (.int .i64 0))), none⟩] [2, 3, 4])
   (.seq (.seq (.reg [⟨some 6, .ldl (.t 2) (some 2), none⟩,
         ⟨some 7, .call 26 [(.t 6)], none⟩,
         ⟨some 8, .un .not (.t 7), none⟩,
         ⟨some 9, .mv (.t 8), none⟩,
         ⟨some 10, .ldl (.t 3) (some 2), some (9, false)⟩,
         ⟨some 11, .call 26 [(.t 10)], some (9, false)⟩,
         ⟨some 12, .un .not (.t 11), some (9, false)⟩,
         ⟨some 13, .pick (.t 9) (.c (.d (.bool true))) (.t 12), none⟩] [2, 3, 4, 13])
     (.cond (.t 13) (.seq (.reg [⟨some 14, .bld [(.d (.int .i64 0)), .nils] [], none⟩,
           ⟨none, .st (.t 4) (.t 14) 2, none⟩,
           ⟨some 5, .mv (.c (.d (.int .i64 1))), none⟩] [4, 5])
       .ret)
      .skip))
    (.seq (.reg [⟨some 15, .ldl (.t 2) (some 2), none⟩,
         ⟨some 16, .ldl (.t 3) (some 2), none⟩,
         ⟨some 17, .call 60 [(.t 15), (.t 16), (.c (.d (.int .i64 (-1))))], none⟩,
         ⟨some 18, .call 59 [(.t 17)], none⟩,
         ⟨some 19, .ext (.t 18) 0, none⟩,
         ⟨some 20, .ext (.t 18) 1, none⟩,
         ⟨none, .st (.t 4) (.t 19) 2, none⟩,
         ⟨some 5, .mv (.t 20), none⟩] [4, 5])
     .ret)))

def t_r19_Sub : List (List Nat × PT) := [([2, 3, 4], .done), ([2, 3, 4, 13], .done), ([4, 5], .done), ([4, 5], .done)]

noncomputable def x_r19_Sub : Cx := ⟨Tryd.prog, 30, Tryd.f30, 21, [300006, 300010, 300015, 300016], [], [.c 4 (some 2), .t 5]⟩
theorem g_r19_Sub : Good x_r19_Sub := ⟨Tryd.func30, by kernel_rfl⟩
theorem rs_r19_Sub : x_r19_Sub.rs = [.c 4 (some 2), .t 5] := rfl
theorem k_r19_Sub : compC Tryd.prog 21 [300006, 300010, 300015, 300016] [] (Tryd.f30.body.getD .skip) t_r19_Sub = some (c_r19_Sub, []) := by kernel_rfl
theorem b_r19_Sub : Tryd.f30.body = some (Tryd.f30.body.getD .skip) := by kernel_rfl
theorem i_r19_Sub {args : List AV} {σ : Heap} {K : AV → Heap → Prop} (hl : args.length ≤ 21) (h : Run x_r19_Sub K [.code c_r19_Sub] (argF args) E σ) : ACalls Tryd.prog 30 args σ K :=
  acalls_of (cx := x_r19_Sub) g_r19_Sub b_r19_Sub Tryd.ntmps30 hl (compC_rc x_r19_Sub _ _ _ _ k_r19_Sub) h

/-! ### amortcost/linear.Scale -/
def c_linear_Scale : C := (.seq (.reg [⟨some 2, .box (.t 0) false, none⟩,
       ⟨some 4, .al [(.d (.int .i64 0)), .nils] false, none⟩,
       ⟨some 5, .mv (.c (.d (.int .i64 0))), none⟩] [1, 2, 4])
   (.seq (.seq (.reg [⟨some 6, .ldl (.t 2) (some 2), none⟩,
         ⟨some 7, .call 35 [(.t 6)], none⟩,
         ⟨some 8, .un .not (.t 7), none⟩] [1, 2, 4, 8])
     (.cond (.t 8) (.seq (.reg [⟨some 9, .bld [(.d (.int .i64 0)), .nils] [], none⟩,
           ⟨none, .st (.t 4) (.t 9) 2, none⟩,
           ⟨some 5, .mv (.c (.d (.int .i64 1))), none⟩] [4, 5])
       .ret)
      .skip))
    (.seq (.seq (.reg [⟨some 10, .mv (.t 1), none⟩,
          ⟨some 11, .call 49 [(.t 10)], none⟩,
          ⟨some 12, .un .not (.t 11), none⟩] [1, 2, 4, 12])
      (.cond (.t 12) (.seq (.reg [⟨some 13, .bld [(.d (.int .i64 0)), .nils] [], none⟩,
            ⟨none, .st (.t 4) (.t 13) 2, none⟩,
            ⟨some 5, .mv (.c (.d (.int .i64 9))), none⟩] [4, 5])
        .ret)
       .skip))
     (.seq (.reg [⟨some 14, .fld (.t 2) 0, none⟩,
          ⟨some 15, .ldl (.t 14) none, none⟩,
          ⟨some 16, .mv (.t 1), none⟩,
          ⟨some 17, .bin .mul (.t 15) (.t 16), none⟩,
          ⟨some 18, .fld (.t 2) 1, none⟩,
          ⟨some 19, .ldl (.t 18) none, none⟩,
          ⟨some 20, .mv (.t 1), none⟩,
          ⟨some 21, .call 61 [(.t 19), (.t 20)], none⟩,
          ⟨some 22, .call 57 [(.t 17), (.t 21)], none⟩,
          ⟨some 23, .ext (.t 22) 0, none⟩,
          ⟨some 24, .ext (.t 22) 1, none⟩,
          ⟨none, .st (.t 4) (.t 23) 2, none⟩,
          ⟨some 5, .mv (.t 24), none⟩] [4, 5])
      .ret))))

def t_linear_Scale : List (List Nat × PT) := [([1, 2, 4], .done), ([1, 2, 4, 8], .done), ([4, 5], .done), ([1, 2, 4, 12], .done), ([4, 5], .done), ([4, 5], .done)]

noncomputable def x_linear_Scale : Cx := ⟨Tryd.prog, 31, Tryd.f31, 25, [300006, 300015, 300019], [], [.c 4 (some 2), .t 5]⟩
theorem g_linear_Scale : Good x_linear_Scale := ⟨Tryd.func31, by kernel_rfl⟩
theorem rs_linear_Scale : x_linear_Scale.rs = [.c 4 (some 2), .t 5] := rfl
theorem k_linear_Scale : compC Tryd.prog 25 [300006, 300015, 300019] [] (Tryd.f31.body.getD .skip) t_linear_Scale = some (c_linear_Scale, []) := by kernel_rfl
theorem b_linear_Scale : Tryd.f31.body = some (Tryd.f31.body.getD .skip) := by kernel_rfl
theorem i_linear_Scale {args : List AV} {σ : Heap} {K : AV → Heap → Prop} (hl : args.length ≤ 25) (h : Run x_linear_Scale K [.code c_linear_Scale] (argF args) E σ) : ACalls Tryd.prog 31 args σ K :=
  acalls_of (cx := x_linear_Scale) g_linear_Scale b_linear_Scale Tryd.ntmps31 hl (compC_rc x_linear_Scale _ _ _ _ k_linear_Scale) h

/-! ### amortcost/amortcostref19.Scale -/
def c_r19_Scale : C := (.seq (.reg [⟨some 2, .box (.t 0) false, none⟩,
       ⟨some 4, .al [(.d (.int .i64 0)), .nils] false, none⟩,
       ⟨some 5, .mv (.c (.d (.int .i64 0))), none⟩] [1, 2, 4])
   (.seq (.seq (.reg [⟨some 6, .ldl (.t 2) (some 2), none⟩,
         ⟨some 7, .call 26 [(.t 6)], none⟩,
         ⟨some 8, .un .not (.t 7), none⟩] [1, 2, 4, 8])
     (.cond (.t 8) (.seq (.reg [⟨some 9, .bld [(.d (.int .i64 0)), .nils] [], none⟩,
           ⟨none, .st (.t 4) (.t 9) 2, none⟩,
           ⟨some 5, .mv (.c (.d (.int .i64 1))), none⟩] [4, 5])
       .ret)
      .skip))
    (.seq (.seq (.reg [⟨some 10, .mv (.t 1), none⟩,
          ⟨some 11, .bin .lss (.t 10) (.c (.d (.int .i64 (-1048576)))), none⟩,
          ⟨some 12, .mv (.t 11), none⟩,
          ⟨some 13, .mv (.t 1), some (12, false)⟩,
          ⟨some 14, .bin .gtr (.t 13) (.c (.d (.int .i64 1048576))), some (12, false)⟩,
          ⟨some 15, .pick (.t 12) (.c (.d (.bool true))) (.t 14), none⟩] [1, 2, 4, 15])
      (.cond (.t 15) (.seq (.reg [⟨some 16, .bld [(.d (.int .i64 0)), .nils] [], none⟩,
            ⟨none, .st (.t 4) (.t 16) 2, none⟩,
            ⟨some 5, .mv (.c (.d (.int .i64 9))), none⟩] [4, 5])
        .ret)
       .skip))
     (.seq (.reg [⟨some 17, .bld [(.d (.int .i64 0)), .nils] [], none⟩,
          ⟨some 18, .ldl (.t 2) (some 2), none⟩,
          ⟨some 19, .mv (.t 1), none⟩,
          ⟨some 20, .call 60 [(.t 17), (.t 18), (.t 19)], none⟩,
          ⟨some 21, .call 59 [(.t 20)], none⟩,
          ⟨some 22, .ext (.t 21) 0, none⟩,
          ⟨some 23, .ext (.t 21) 1, none⟩,
          ⟨none, .st (.t 4) (.t 22) 2, none⟩,
          ⟨some 5, .mv (.t 23), none⟩] [4, 5])
      .ret))))

def t_r19_Scale : List (List Nat × PT) := [([1, 2, 4], .done), ([1, 2, 4, 8], .done), ([4, 5], .done), ([1, 2, 4, 15], .done), ([4, 5], .done), ([4, 5], .done)]

noncomputable def x_r19_Scale : Cx := ⟨Tryd.prog, 32, Tryd.f32, 24, [300006, 300018], [], [.c 4 (some 2), .t 5]⟩
theorem g_r19_Scale : Good x_r19_Scale := ⟨Tryd.func32, by kernel_rfl⟩
theorem rs_r19_Scale : x_r19_Scale.rs = [.c 4 (some 2), .t 5] := rfl
theorem k_r19_Scale : compC Tryd.prog 24 [300006, 300018] [] (Tryd.f32.body.getD .skip) t_r19_Scale = some (c_r19_Scale, []) := by kernel_rfl
theorem b_r19_Scale : Tryd.f32.body = some (Tryd.f32.body.getD .skip) := by kernel_rfl
theorem i_r19_Scale {args : List AV} {σ : Heap} {K : AV → Heap → Prop} (hl : args.length ≤ 24) (h : Run x_r19_Scale K [.code c_r19_Scale] (argF args) E σ) : ACalls Tryd.prog 32 args σ K :=
  acalls_of (cx := x_r19_Scale) g_r19_Scale b_r19_Scale Tryd.ntmps32 hl (compC_rc x_r19_Scale _ _ _ _ k_r19_Scale) h

/-! ### amortcost/linear.Canonical -/
/- slots of c_linear_Canonical_L0 : [1, 2, 9, 10, 11] -/
def c_linear_Canonical_L0 : C := (.seq (.reg [⟨some 12, .bin .lss (.t 11) (.t 10), none⟩] [1, 2, 9, 10, 11, 12])
   (.seq (.cond (.t 12) .skip
     (.exit 0))
    (.seq (.block 1 (.seq (.reg [⟨some 13, .ix (.t 9) (.t 11) 2, none⟩,
           ⟨some 14, .ld (.t 13) (some 2), none⟩,
           ⟨some 5, .al [(.d (.int .i64 0)), (.d (.int .i64 0))] false, none⟩,
           ⟨none, .st (.t 5) (.t 14) 2, none⟩] [1, 2, 5, 9, 10, 11])
       (.seq (.reg [⟨some 15, .fld (.t 5) 0, none⟩,
            ⟨some 16, .ldl (.t 15) none, none⟩,
            ⟨some 17, .call 50 [(.t 16)], none⟩,
            ⟨some 18, .un .not (.t 17), none⟩] [1, 2, 9, 10, 11, 18])
        (.cond (.t 18) (.seq (.reg [⟨some 19, .bld [(.d (.int .i64 0)), .nils] [], none⟩,
              ⟨none, .st (.t 2) (.t 19) 2, none⟩,
              ⟨some 3, .mv (.c (.d (.int .i64 8))), none⟩] [2, 3])
          .ret)
         .skip))))
     (.reg [⟨some 20, .bin .add (.t 11) (.c (.d (.int .i64 1))), none⟩,
         ⟨some 11, .mv (.t 20), none⟩] [1, 2, 9, 10, 11]))))

/- slots of c_linear_Canonical_L1 : [1, 2, 32, 33, 34] -/
def c_linear_Canonical_L1 : C := (.seq (.reg [⟨some 35, .bin .lss (.t 34) (.t 33), none⟩] [1, 2, 32, 33, 34, 35])
   (.seq (.cond (.t 35) .skip
     (.exit 2))
    (.seq (.block 3 (.seq (.reg [⟨some 36, .ix (.t 32) (.t 34) 2, none⟩,
           ⟨some 37, .ld (.t 36) (some 2), none⟩,
           ⟨some 7, .al [(.d (.int .i64 0)), (.d (.int .i64 0))] false, none⟩,
           ⟨none, .st (.t 7) (.t 37) 2, none⟩] [1, 2, 7, 32, 33, 34])
       (.seq (.reg [⟨some 38, .fld (.t 7) 1, none⟩,
            ⟨some 39, .ldl (.t 38) none, none⟩,
            ⟨some 40, .call 62 [(.t 39)], none⟩] [1, 2, 32, 33, 34, 40])
        (.cond (.t 40) (.seq (.reg [⟨some 41, .bld [(.d (.int .i64 0)), .nils] [], none⟩,
              ⟨none, .st (.t 2) (.t 41) 2, none⟩,
              ⟨some 3, .mv (.c (.d (.int .i64 9))), none⟩] [2, 3])
          .ret)
         .skip))))
     (.reg [⟨some 42, .bin .add (.t 34) (.c (.d (.int .i64 1))), none⟩,
         ⟨some 34, .mv (.t 42), none⟩] [1, 2, 32, 33, 34]))))

def c_linear_Canonical : C := (.seq (.reg [⟨some 1, .box (.t 0) false, none⟩,
       ⟨some 2, .al [(.d (.int .i64 0)), .nils] false, none⟩,
       ⟨some 3, .mv (.c (.d (.int .i64 0))), none⟩] [1, 2])
   (.seq (.seq (.reg [⟨some 8, .fld (.t 1) 1, none⟩,
         ⟨some 9, .ldl (.t 8) none, none⟩,
         ⟨some 10, .len (.t 9), none⟩,
         ⟨some 11, .mv (.c (.d (.int .i64 0))), none⟩] [1, 2, 9, 10, 11])
     (.block 0 (.loop c_linear_Canonical_L0)))
    (.seq (.seq (.reg [⟨some 21, .fld (.t 1) 1, none⟩,
          ⟨some 22, .ldl (.t 21) none, none⟩,
          ⟨some 23, .len (.t 22), none⟩,
          ⟨some 24, .bin .gtr (.t 23) (.c (.d (.int .i64 64))), none⟩,
          ⟨some 25, .mv (.t 24), none⟩,
          ⟨some 26, .fld (.t 1) 0, some (25, false)⟩,
          ⟨some 27, .ldl (.t 26) none, some (25, false)⟩,
          ⟨some 28, .call 62 [(.t 27)], some (25, false)⟩,
          ⟨some 29, .pick (.t 25) (.c (.d (.bool true))) (.t 28), none⟩] [1, 2, 29])
      (.cond (.t 29) (.seq (.reg [⟨some 30, .bld [(.d (.int .i64 0)), .nils] [], none⟩,
            ⟨none, .st (.t 2) (.t 30) 2, none⟩,
            ⟨some 3, .mv (.c (.d (.int .i64 9))), none⟩] [2, 3])
        .ret)
       .skip))
     (.seq (.seq (.reg [⟨some 31, .fld (.t 1) 1, none⟩,
           ⟨some 32, .ldl (.t 31) none, none⟩,
           ⟨some 33, .len (.t 32), none⟩,
           ⟨some 34, .mv (.c (.d (.int .i64 0))), none⟩] [1, 2, 32, 33, 34])
       (.block 2 (.loop c_linear_Canonical_L1)))
      (.seq (.reg [⟨some 43, .fld (.t 1) 0, none⟩,
           ⟨some 44, .ldl (.t 43) none, none⟩,
           ⟨some 45, .fld (.t 1) 1, none⟩,
           ⟨some 46, .ldl (.t 45) none, none⟩,
           ⟨some 47, .call 57 [(.t 44), (.t 46)], none⟩,
           ⟨some 48, .ext (.t 47) 0, none⟩,
           ⟨some 49, .ext (.t 47) 1, none⟩,
           ⟨none, .st (.t 2) (.t 48) 2, none⟩,
           ⟨some 3, .mv (.t 49), none⟩] [2, 3])
       .ret)))))

def t_linear_Canonical : List (List Nat × PT) := [([1, 2], .done), ([1, 2, 9, 10, 11], .done), ([1, 2, 9, 10, 11, 12], .done), ([1, 2, 5, 9, 10, 11], .done), ([1, 2, 9, 10, 11, 18], .done), ([2, 3], .done), ([1, 2, 9, 10, 11], .done), ([1, 2, 29], .done), ([2, 3], .done), ([1, 2, 32, 33, 34], .done), ([1, 2, 32, 33, 34, 35], .done), ([1, 2, 7, 32, 33, 34], .done), ([1, 2, 32, 33, 34, 40], .done), ([2, 3], .done), ([1, 2, 32, 33, 34], .done), ([2, 3], .done)]

noncomputable def x_linear_Canonical : Cx := ⟨Tryd.prog, 33, Tryd.f33, 50, [300009, 300016, 300022, 300027, 300032, 300039, 300044, 300046], [], [.c 2 (some 2), .t 3]⟩
theorem g_linear_Canonical : Good x_linear_Canonical := ⟨Tryd.func33, by kernel_rfl⟩
theorem rs_linear_Canonical : x_linear_Canonical.rs = [.c 2 (some 2), .t 3] := rfl
theorem k_linear_Canonical : compC Tryd.prog 50 [300009, 300016, 300022, 300027, 300032, 300039, 300044, 300046] [] (Tryd.f33.body.getD .skip) t_linear_Canonical = some (c_linear_Canonical, []) := by kernel_rfl
theorem b_linear_Canonical : Tryd.f33.body = some (Tryd.f33.body.getD .skip) := by kernel_rfl
theorem i_linear_Canonical {args : List AV} {σ : Heap} {K : AV → Heap → Prop} (hl : args.length ≤ 50) (h : Run x_linear_Canonical K [.code c_linear_Canonical] (argF args) E σ) : ACalls Tryd.prog 33 args σ K :=
  acalls_of (cx := x_linear_Canonical) g_linear_Canonical b_linear_Canonical Tryd.ntmps33 hl (compC_rc x_linear_Canonical _ _ _ _ k_linear_Canonical) h

/-! ### amortcost/amortcostref19.Canonical -/
/- slots of c_r19_Canonical_L0 : [1, 2, 10, 11, 12] -/
def c_r19_Canonical_L0 : C := (.seq (.reg [⟨some 13, .bin .lss (.t 12) (.t 11), none⟩] [1, 2, 10, 11, 12, 13])
   (.seq (.cond (.t 13) .skip
     (.exit 0))
    (.seq (.block 1 (.seq (.reg [⟨some 14, .ix (.t 10) (.t 12) 2, none⟩,
           ⟨some 15, .ld (.t 14) (some 2), none⟩,
           ⟨some 5, .al [(.d (.int .i64 0)), (.d (.int .i64 0))] false, none⟩,
           ⟨none, .st (.t 5) (.t 15) 2, none⟩] [1, 2, 5, 10, 11, 12])
       (.seq (.reg [⟨some 16, .fld (.t 5) 0, none⟩,
            ⟨some 17, .ldl (.t 16) none, none⟩,
            ⟨some 18, .bin .lss (.t 17) (.c (.d (.int .i64 (-1)))), none⟩,
            ⟨some 19, .mv (.t 18), none⟩,
            ⟨some 20, .fld (.t 5) 0, some (19, false)⟩,
            ⟨some 21, .ldl (.t 20) none, some (19, false)⟩,
            ⟨some 22, .bin .geq (.t 21) (.c (.d (.int .i64 3000))), some (19, false)⟩,
            ⟨some 23, .pick (.t 19) (.c (.d (.bool true))) (.t 22), none⟩] [1, 2, 10, 11, 12, 23])
        (.cond (.t 23) (.seq (.reg [⟨some 24, .bld [(.d (.int .i64 0)), .nils] [], none⟩,
              ⟨none, .st (.t 2) (.t 24) 2, none⟩,
              ⟨some 3, .mv (.c (.d (.int .i64 8))), none⟩] [2, 3])
          .ret)
         .skip))))
     (.reg [⟨some 25, .bin .add (.t 12) (.c (.d (.int .i64 1))), none⟩,
         ⟨some 12, .mv (.t 25), none⟩] [1, 2, 10, 11, 12]))))

/- slots of c_r19_Canonical_L1 : [2, 6, 45, 46, 47] -/
def c_r19_Canonical_L1 : C := (.seq (.reg [⟨some 48, .bin .lss (.t 47) (.t 46), none⟩] [2, 6, 45, 46, 47, 48])
   (.seq (.cond (.t 48) .skip
     (.exit 2))
    (.seq (.block 3 (.seq (.reg [⟨some 49, .ix (.t 45) (.t 47) 2, none⟩,
           ⟨some 50, .ld (.t 49) (some 2), none⟩,
           ⟨some 8, .al [(.d (.int .i64 0)), (.d (.int .i64 0))] false, none⟩,
           ⟨none, .st (.t 8) (.t 50) 2, none⟩] [2, 6, 8, 45, 46, 47])
       (.seq (.seq (.reg [⟨some 51, .fld (.t 8) 1, none⟩,
             ⟨some 52, .ldl (.t 51) none, none⟩,
             ⟨some 53, .bin .lss (.t 52) (.c (.d (.int .i64 (-1099511627776)))), none⟩,
             ⟨some 54, .mv (.t 53), none⟩,
             ⟨some 55, .fld (.t 8) 1, some (54, false)⟩,
             ⟨some 56, .ldl (.t 55) none, some (54, false)⟩,
             ⟨some 57, .bin .gtr (.t 56) (.c (.d (.int .i64 1099511627776))), some (54, false)⟩,
             ⟨some 58, .pick (.t 54) (.c (.d (.bool true))) (.t 57), none⟩] [2, 6, 8, 45, 46, 47, 58])
         (.cond (.t 58) (.seq (.reg [⟨some 59, .bld [(.d (.int .i64 0)), .nils] [], none⟩,
               ⟨none, .st (.t 2) (.t 59) 2, none⟩,
               ⟨some 3, .mv (.c (.d (.int .i64 9))), none⟩] [2, 3])
           .ret)
          .skip))
        (.reg [⟨some 60, .fld (.t 6) 1, none⟩,
            ⟨some 61, .ldl (.t 60) none, none⟩,
            ⟨some 62, .fld (.t 8) 0, none⟩,
            ⟨some 63, .ldl (.t 62) none, none⟩,
            ⟨some 64, .fld (.t 8) 1, none⟩,
            ⟨some 65, .ldl (.t 64) none, none⟩,
            ⟨some 66, .call 63 [(.t 61), (.t 63), (.t 65)], none⟩,
            ⟨some 67, .fld (.t 6) 1, none⟩,
            ⟨none, .st (.t 67) (.t 66) 1, none⟩] [2, 6, 45, 46, 47]))))
     (.reg [⟨some 68, .bin .add (.t 47) (.c (.d (.int .i64 1))), none⟩,
         ⟨some 47, .mv (.t 68), none⟩] [2, 6, 45, 46, 47]))))

def c_r19_Canonical : C := (.seq (.reg [⟨some 1, .box (.t 0) false, none⟩,
       ⟨some 2, .al [(.d (.int .i64 0)), .nils] false, none⟩,
       ⟨some 3, .mv (.c (.d (.int .i64 0))), none⟩] [1, 2])
   (.seq (.seq (.reg [⟨some 9, .fld (.t 1) 1, none⟩,
         ⟨some 10, .ldl (.t 9) none, none⟩,
         ⟨some 11, .len (.t 10), none⟩,
         ⟨some 12, .mv (.c (.d (.int .i64 0))), none⟩] [1, 2, 10, 11, 12])
     (.block 0 (.loop c_r19_Canonical_L0)))
    (.seq (.seq (.reg [⟨some 26, .fld (.t 1) 1, none⟩,
          ⟨some 27, .ldl (.t 26) none, none⟩,
          ⟨some 28, .len (.t 27), none⟩,
          ⟨some 29, .bin .gtr (.t 28) (.c (.d (.int .i64 64))), none⟩,
          ⟨some 30, .mv (.t 29), none⟩,
          ⟨some 31, .fld (.t 1) 0, some (30, false)⟩,
          ⟨some 32, .ldl (.t 31) none, some (30, false)⟩,
          ⟨some 33, .bin .lss (.t 32) (.c (.d (.int .i64 (-1099511627776)))), some (30, false)⟩,
          ⟨some 34, .pick (.t 30) (.c (.d (.bool true))) (.t 33), none⟩,
          ⟨some 35, .mv (.t 34), none⟩,
          ⟨some 36, .fld (.t 1) 0, some (35, false)⟩,
          ⟨some 37, .ldl (.t 36) none, some (35, false)⟩,
          ⟨some 38, .bin .gtr (.t 37) (.c (.d (.int .i64 1099511627776))), some (35, false)⟩,
          ⟨some 39, .pick (.t 35) (.c (.d (.bool true))) (.t 38), none⟩] [1, 2, 39])
      (.cond (.t 39) (.seq (.reg [⟨some 40, .bld [(.d (.int .i64 0)), .nils] [], none⟩,
            ⟨none, .st (.t 2) (.t 40) 2, none⟩,
            ⟨some 3, .mv (.c (.d (.int .i64 9))), none⟩] [2, 3])
        .ret)
       .skip))
     (.seq (.reg [⟨some 41, .fld (.t 1) 0, none⟩,
          ⟨some 42, .ldl (.t 41) none, none⟩,
          ⟨some 43, .bld [(.d (.int .i64 0)), .nils] [(0, 1, (.t 42))], none⟩,
          ⟨some 6, .al [(.d (.int .i64 0)), .nils] false, none⟩,
          ⟨none, .st (.t 6) (.t 43) 2, none⟩] [1, 2, 6])
      (.seq (.seq (.reg [⟨some 44, .fld (.t 1) 1, none⟩,
            ⟨some 45, .ldl (.t 44) none, none⟩,
            ⟨some 46, .len (.t 45), none⟩,
            ⟨some 47, .mv (.c (.d (.int .i64 0))), none⟩] [2, 6, 45, 46, 47])
        (.block 2 (.loop c_r19_Canonical_L1)))
       (.seq (.reg [⟨some 69, .ldl (.t 6) (some 2), none⟩,
            ⟨some 70, .call 59 [(.t 69)], none⟩,
            ⟨some 71, .ext (.t 70) 0, none⟩,
            ⟨some 72, .ext (.t 70) 1, none⟩,
            ⟨none, .st (.t 2) (.t 71) 2, none⟩,
            ⟨some 3, .mv (.t 72), none⟩] [2, 3])
        .ret))))))

def t_r19_Canonical : List (List Nat × PT) := [([1, 2], .done), ([1, 2, 10, 11, 12], .done), ([1, 2, 10, 11, 12, 13], .done), ([1, 2, 5, 10, 11, 12], .done), ([1, 2, 10, 11, 12, 23], .done), ([2, 3], .done), ([1, 2, 10, 11, 12], .done), ([1, 2, 39], .done), ([2, 3], .done), ([1, 2, 6], .done), ([2, 6, 45, 46, 47], .done), ([2, 6, 45, 46, 47, 48], .done), ([2, 6, 8, 45, 46, 47], .done), ([2, 6, 8, 45, 46, 47, 58], .done), ([2, 3], .done), ([2, 6, 45, 46, 47], .done), ([2, 6, 45, 46, 47], .done), ([2, 3], .done)]

noncomputable def x_r19_Canonical : Cx := ⟨Tryd.prog, 34, Tryd.f34, 73, [300010, 300017, 300021, 300027, 300032, 300037, 300042, 300045, 300052, 300056, 300061, 300063, 300065, 300069], [], [.c 2 (some 2), .t 3]⟩
theorem g_r19_Canonical : Good x_r19_Canonical := ⟨Tryd.func34, by kernel_rfl⟩
theorem rs_r19_Canonical : x_r19_Canonical.rs = [.c 2 (some 2), .t 3] := rfl
theorem k_r19_Canonical : compC Tryd.prog 73 [300010, 300017, 300021, 300027, 300032, 300037, 300042, 300045, 300052, 300056, 300061, 300063, 300065, 300069] [] (Tryd.f34.body.getD .skip) t_r19_Canonical = some (c_r19_Canonical, []) := by kernel_rfl
theorem b_r19_Canonical : Tryd.f34.body = some (Tryd.f34.body.getD .skip) := by kernel_rfl
theorem i_r19_Canonical {args : List AV} {σ : Heap} {K : AV → Heap → Prop} (hl : args.length ≤ 73) (h : Run x_r19_Canonical K [.code c_r19_Canonical] (argF args) E σ) : ACalls Tryd.prog 34 args σ K :=
  acalls_of (cx := x_r19_Canonical) g_r19_Canonical b_r19_Canonical Tryd.ntmps34 hl (compC_rc x_r19_Canonical _ _ _ _ k_r19_Canonical) h

/-! ### amortcost/linear.Valid -/
/- slots of c_linear_Valid_L0 : [1, 16, 17, 18] -/
def c_linear_Valid_L0 : C := (.seq (.reg [⟨some 19, .bin .lss (.t 18) (.t 17), none⟩] [1, 16, 17, 18, 19])
   (.seq (.cond (.t 19) .skip
     (.exit 0))
    (.seq (.block 1 (.seq (.reg [⟨some 20, .mv (.t 18), none⟩,
           ⟨some 21, .ix (.t 16) (.t 18) 2, none⟩,
           ⟨some 22, .ld (.t 21) (some 2), none⟩,
           ⟨some 4, .al [(.d (.int .i64 0)), (.d (.int .i64 0))] false, none⟩,
           ⟨some 3, .mv (.t 20), none⟩,
           ⟨none, .st (.t 4) (.t 22) 2, none⟩] [1, 3, 4, 16, 17, 18])
       (.seq (.reg [⟨some 23, .fld (.t 4) 0, none⟩,
            ⟨some 24, .ldl (.t 23) none, none⟩,
            ⟨some 25, .call 50 [(.t 24)], none⟩,
            ⟨some 26, .un .not (.t 25), none⟩,
            ⟨some 27, .mv (.t 26), none⟩,
            ⟨some 28, .fld (.t 4) 1, some (27, false)⟩,
            ⟨some 29, .ldl (.t 28) none, some (27, false)⟩,
            ⟨some 30, .bin .eql (.t 29) (.c (.d (.int .i64 0))), some (27, false)⟩,
            ⟨some 31, .pick (.t 27) (.c (.d (.bool true))) (.t 30), none⟩,
            ⟨some 32, .mv (.t 31), none⟩,
            ⟨some 33, .fld (.t 4) 1, some (32, false)⟩,
            ⟨some 34, .ldl (.t 33) none, some (32, false)⟩,
            ⟨some 35, .call 49 [(.t 34)], some (32, false)⟩,
            ⟨some 36, .un .not (.t 35), some (32, false)⟩,
            ⟨some 37, .pick (.t 32) (.c (.d (.bool true))) (.t 36), none⟩,
            ⟨some 38, .mv (.t 37), none⟩,
            ⟨some 39, .mv (.t 3), some (38, false)⟩,
            ⟨some 40, .bin .gtr (.t 39) (.c (.d (.int .i64 0))), some (38, false)⟩,
            ⟨some 41, .mv (.t 40), some (38, false)⟩,
            ⟨some 42, .fld (.t 1) 1, some (41, true)⟩,
            ⟨some 43, .ldl (.t 42) none, some (41, true)⟩,
            ⟨some 44, .mv (.t 3), some (41, true)⟩,
            ⟨some 45, .bin .sub (.t 44) (.c (.d (.int .i64 1))), some (41, true)⟩,
            ⟨some 46, .ix (.t 43) (.t 45) 2, some (41, true)⟩,
            ⟨some 47, .fld (.t 46) 0, some (41, true)⟩,
            ⟨some 48, .ld (.t 47) none, some (41, true)⟩,
            ⟨some 49, .fld (.t 4) 0, some (41, true)⟩,
            ⟨some 50, .ldl (.t 49) none, some (41, true)⟩,
            ⟨some 51, .bin .geq (.t 48) (.t 50), some (41, true)⟩,
            ⟨some 52, .pick (.t 41) (.t 51) (.c (.d (.bool false))), some (38, false)⟩,
            ⟨some 53, .pick (.t 38) (.c (.d (.bool true))) (.t 52), none⟩] [1, 16, 17, 18, 53])
        (.cond (.t 53) (.seq (.reg [⟨some 2, .mv (.c (.d (.bool false))), none⟩] [2])
          .ret)
         .skip))))
     (.reg [⟨some 54, .bin .add (.t 18) (.c (.d (.int .i64 1))), none⟩,
         ⟨some 18, .mv (.t 54), none⟩] [1, 16, 17, 18]))))

def c_linear_Valid : C := (.seq (.reg [⟨some 1, .box (.t 0) false, none⟩,
       ⟨some 2, .mv (.c (.d (.bool false))), none⟩] [1])
   (.seq (.seq (.reg [⟨some 5, .fld (.t 1) 0, none⟩,
         ⟨some 6, .ldl (.t 5) none, none⟩,
         ⟨some 7, .call 49 [(.t 6)], none⟩,
         ⟨some 8, .un .not (.t 7), none⟩,
         ⟨some 9, .mv (.t 8), none⟩,
         ⟨some 10, .fld (.t 1) 1, some (9, false)⟩,
         ⟨some 11, .ldl (.t 10) none, some (9, false)⟩,
         ⟨some 12, .len (.t 11), some (9, false)⟩,
         ⟨some 13, .bin .gtr (.t 12) (.c (.d (.int .i64 16))), some (9, false)⟩,
         ⟨some 14, .pick (.t 9) (.c (.d (.bool true))) (.t 13), none⟩] [1, 14])
     (.cond (.t 14) (.seq (.reg [⟨some 2, .mv (.c (.d (.bool false))), none⟩] [2])
       .ret)
      .skip))
    (.seq (.seq (.reg [⟨some 15, .fld (.t 1) 1, none⟩,
          ⟨some 16, .ldl (.t 15) none, none⟩,
          ⟨some 17, .len (.t 16), none⟩,
          ⟨some 18, .mv (.c (.d (.int .i64 0))), none⟩] [1, 16, 17, 18])
      (.block 0 (.loop c_linear_Valid_L0)))
     (.seq (.reg [⟨some 2, .mv (.c (.d (.bool true))), none⟩] [2])
      .ret))))

def t_linear_Valid : List (List Nat × PT) := [([1], .done), ([1, 14], .done), ([2], .done), ([1, 16, 17, 18], .done), ([1, 16, 17, 18, 19], .done), ([1, 3, 4, 16, 17, 18], .done), ([1, 16, 17, 18, 53], .done), ([2], .done), ([1, 16, 17, 18], .done), ([2], .done)]

noncomputable def x_linear_Valid : Cx := ⟨Tryd.prog, 35, Tryd.f35, 55, [300006, 300011, 300016, 300024, 300029, 300034, 300043, 300050], [], [.t 2]⟩
theorem g_linear_Valid : Good x_linear_Valid := ⟨Tryd.func35, by kernel_rfl⟩
theorem rs_linear_Valid : x_linear_Valid.rs = [.t 2] := rfl
theorem k_linear_Valid : compC Tryd.prog 55 [300006, 300011, 300016, 300024, 300029, 300034, 300043, 300050] [] (Tryd.f35.body.getD .skip) t_linear_Valid = some (c_linear_Valid, []) := by kernel_rfl
theorem b_linear_Valid : Tryd.f35.body = some (Tryd.f35.body.getD .skip) := by kernel_rfl
theorem i_linear_Valid {args : List AV} {σ : Heap} {K : AV → Heap → Prop} (hl : args.length ≤ 55) (h : Run x_linear_Valid K [.code c_linear_Valid] (argF args) E σ) : ACalls Tryd.prog 35 args σ K :=
  acalls_of (cx := x_linear_Valid) g_linear_Valid b_linear_Valid Tryd.ntmps35 hl (compC_rc x_linear_Valid _ _ _ _ k_linear_Valid) h

/-! ### amortcost/amortcostkeep.Lin -/
def c_keep_Lin : C := (.seq (.reg [⟨some 1, .box (.t 0) false, none⟩,
       ⟨some 2, .mv (.c (.d (.bool false))), none⟩] [1])
   (.seq (.reg [⟨some 3, .fld (.t 1) 1, none⟩,
        ⟨some 4, .ldl (.t 3) none, none⟩,
        ⟨some 5, .len (.t 4), none⟩,
        ⟨some 6, .bin .leq (.t 5) (.c (.d (.int .i64 70))), none⟩,
        ⟨some 2, .mv (.t 6), none⟩] [2])
    .ret))

def t_keep_Lin : List (List Nat × PT) := [([1], .done), ([2], .done)]

noncomputable def x_keep_Lin : Cx := ⟨Tryd.prog, 36, Tryd.f36, 7, [300004], [], [.t 2]⟩
theorem g_keep_Lin : Good x_keep_Lin := ⟨Tryd.func36, by kernel_rfl⟩
theorem rs_keep_Lin : x_keep_Lin.rs = [.t 2] := rfl
theorem k_keep_Lin : compC Tryd.prog 7 [300004] [] (Tryd.f36.body.getD .skip) t_keep_Lin = some (c_keep_Lin, []) := by kernel_rfl
theorem b_keep_Lin : Tryd.f36.body = some (Tryd.f36.body.getD .skip) := by kernel_rfl
theorem i_keep_Lin {args : List AV} {σ : Heap} {K : AV → Heap → Prop} (hl : args.length ≤ 7) (h : Run x_keep_Lin K [.code c_keep_Lin] (argF args) E σ) : ACalls Tryd.prog 36 args σ K :=
  acalls_of (cx := x_keep_Lin) g_keep_Lin b_keep_Lin Tryd.ntmps36 hl (compC_rc x_keep_Lin _ _ _ _ k_keep_Lin) h

/-! ### amortcost/linear.small -/
def c_linear_small : C := (.seq (.reg [⟨some 2, .mv (.c (.d (.bool false))), none⟩] [0])
   (.seq (.reg [⟨some 3, .mv (.t 0), none⟩,
        ⟨some 4, .bin .leq (.c (.d (.int .i64 (-1048576)))) (.t 3), none⟩,
        ⟨some 5, .mv (.t 4), none⟩,
        ⟨some 6, .mv (.t 0), some (5, true)⟩,
        ⟨some 7, .bin .leq (.t 6) (.c (.d (.int .i64 1048576))), some (5, true)⟩,
        ⟨some 8, .pick (.t 5) (.t 7) (.c (.d (.bool false))), none⟩,
        ⟨some 2, .mv (.t 8), none⟩] [2])
    .ret))

def t_linear_small : List (List Nat × PT) := [([0], .done), ([2], .done)]

noncomputable def x_linear_small : Cx := ⟨Tryd.prog, 49, Tryd.f49, 9, [], [], [.t 2]⟩
theorem g_linear_small : Good x_linear_small := ⟨Tryd.func49, by kernel_rfl⟩
theorem rs_linear_small : x_linear_small.rs = [.t 2] := rfl
theorem k_linear_small : compC Tryd.prog 9 [] [] (Tryd.f49.body.getD .skip) t_linear_small = some (c_linear_small, []) := by kernel_rfl
theorem b_linear_small : Tryd.f49.body = some (Tryd.f49.body.getD .skip) := by kernel_rfl
theorem i_linear_small {args : List AV} {σ : Heap} {K : AV → Heap → Prop} (hl : args.length ≤ 9) (h : Run x_linear_small K [.code c_linear_small] (argF args) E σ) : ACalls Tryd.prog 49 args σ K :=
  acalls_of (cx := x_linear_small) g_linear_small b_linear_small Tryd.ntmps49 hl (compC_rc x_linear_small _ _ _ _ k_linear_small) h

/-! ### amortcost/linear.variable -/
def c_linear_variable : C := (.seq (.reg [⟨some 2, .mv (.c (.d (.bool false))), none⟩] [0])
   (.seq (.reg [⟨some 3, .mv (.t 0), none⟩,
        ⟨some 4, .bin .geq (.t 3) (.c (.d (.int .i64 (-1)))), none⟩,
        ⟨some 5, .mv (.t 4), none⟩,
        ⟨some 6, .mv (.t 0), some (5, true)⟩,
        ⟨some 7, .bin .lss (.t 6) (.c (.d (.int .i64 3000))), some (5, true)⟩,
        ⟨some 8, .pick (.t 5) (.t 7) (.c (.d (.bool false))), none⟩,
        ⟨some 2, .mv (.t 8), none⟩] [2])
    .ret))

def t_linear_variable : List (List Nat × PT) := [([0], .done), ([2], .done)]

noncomputable def x_linear_variable : Cx := ⟨Tryd.prog, 50, Tryd.f50, 9, [], [], [.t 2]⟩
theorem g_linear_variable : Good x_linear_variable := ⟨Tryd.func50, by kernel_rfl⟩
theorem rs_linear_variable : x_linear_variable.rs = [.t 2] := rfl
theorem k_linear_variable : compC Tryd.prog 9 [] [] (Tryd.f50.body.getD .skip) t_linear_variable = some (c_linear_variable, []) := by kernel_rfl
theorem b_linear_variable : Tryd.f50.body = some (Tryd.f50.body.getD .skip) := by kernel_rfl
theorem i_linear_variable {args : List AV} {σ : Heap} {K : AV → Heap → Prop} (hl : args.length ≤ 9) (h : Run x_linear_variable K [.code c_linear_variable] (argF args) E σ) : ACalls Tryd.prog 50 args σ K :=
  acalls_of (cx := x_linear_variable) g_linear_variable b_linear_variable Tryd.ntmps50 hl (compC_rc x_linear_variable _ _ _ _ k_linear_variable) h

/-! ### amortcost/linear.sign -/
def c_linear_sign : C := (.seq (.reg [⟨some 6, .mv (.c (.d (.int .i64 0))), none⟩] [0, 1, 2])
   (.seq (.block 0 (.seq (.reg [⟨some 8, .mv (.t 2), none⟩,
          ⟨some 9, .mv (.t 8), none⟩,
          ⟨some 10, .mv (.t 1), some (9, true)⟩,
          ⟨some 11, .bin .lss (.t 10) (.c (.d (.int .i64 0))), some (9, true)⟩,
          ⟨some 12, .pick (.t 9) (.t 11) (.c (.d (.bool false))), none⟩,
          ⟨some 7, .mv (.t 12), none⟩] [0, 1, 2, 7])
      (.cond (.t 7) (.reg [⟨some 13, .mv (.t 0), none⟩,
           ⟨some 14, .call 52 [(.t 13), (.c (.d (.str [45])))], none⟩] [1])
       (.seq (.reg [⟨some 16, .mv (.t 1), none⟩,
            ⟨some 17, .bin .lss (.t 16) (.c (.d (.int .i64 0))), none⟩,
            ⟨some 15, .mv (.t 17), none⟩] [0, 1, 2, 15])
        (.cond (.t 15) (.reg [⟨some 18, .mv (.t 0), none⟩,
             ⟨some 19, .call 52 [(.t 18), (.c (.d (.str [32, 45, 32])))], none⟩] [1])
         (.seq (.reg [⟨some 21, .mv (.t 2), none⟩,
              ⟨some 22, .un .not (.t 21), none⟩,
              ⟨some 20, .mv (.t 22), none⟩] [0, 1, 20])
          (.cond (.t 20) (.reg [⟨some 23, .mv (.t 0), none⟩,
               ⟨some 24, .call 52 [(.t 23), (.c (.d (.str [32, 43, 32])))], none⟩] [1])
           .skip)))))))
    (.seq (.reg [⟨some 25, .mv (.t 1), none⟩,
         ⟨some 26, .mv (.t 1), none⟩,
         ⟨some 27, .un .neg (.t 26), none⟩,
         ⟨some 28, .mm true (.t 25) (.t 27), none⟩,
         ⟨some 6, .mv (.t 28), none⟩] [6])
     .ret)))

def t_linear_sign : List (List Nat × PT) := [([0, 1, 2], .done), ([0, 1, 2, 7], .done), ([1], .done), ([0, 1, 2, 15], .done), ([1], .done), ([0, 1, 20], .done), ([1], .done), ([6], .done)]

noncomputable def x_linear_sign : Cx := ⟨Tryd.prog, 51, Tryd.f51, 29, [], [], [.t 6]⟩
theorem g_linear_sign : Good x_linear_sign := ⟨Tryd.func51, by kernel_rfl⟩
theorem rs_linear_sign : x_linear_sign.rs = [.t 6] := rfl
theorem k_linear_sign : compC Tryd.prog 29 [] [] (Tryd.f51.body.getD .skip) t_linear_sign = some (c_linear_sign, []) := by kernel_rfl
theorem b_linear_sign : Tryd.f51.body = some (Tryd.f51.body.getD .skip) := by kernel_rfl
theorem i_linear_sign {args : List AV} {σ : Heap} {K : AV → Heap → Prop} (hl : args.length ≤ 29) (h : Run x_linear_sign K [.code c_linear_sign] (argF args) E σ) : ACalls Tryd.prog 51 args σ K :=
  acalls_of (cx := x_linear_sign) g_linear_sign b_linear_sign Tryd.ntmps51 hl (compC_rc x_linear_sign _ _ _ _ k_linear_sign) h

/-! ### (*strings.Builder).WriteString -/
def c_strings_Builder_WriteString : C := (.seq (.reg [⟨some 4, .mv (.c (.d (.int .i64 0))), none⟩,
       ⟨some 5, .mv (.c .undef), none⟩] [0, 1])
   (.seq (.reg [⟨some 6, .mv (.t 0), none⟩,
        ⟨some 7, .call 82 [(.t 6)], none⟩] [0, 1])
    (.seq (.reg [⟨some 8, .mv (.t 0), none⟩,
         ⟨some 9, .mv (.t 0), none⟩,
         ⟨some 10, .nck (.t 9), none⟩,
         ⟨some 11, .fld (.t 10) 1, none⟩,
         ⟨some 12, .ld (.t 11) none, none⟩,
         ⟨some 13, .mv (.t 1), none⟩,
         ⟨some 14, .ex (.apps 5) [(.t 12), (.t 13)], none⟩,
         ⟨some 15, .nck (.t 8), none⟩,
         ⟨some 16, .fld (.t 15) 1, none⟩,
         ⟨none, .st (.t 16) (.t 14) 1, none⟩] [1])
     (.seq (.reg [⟨some 17, .mv (.t 1), none⟩,
          ⟨some 18, .slen (.t 17), none⟩,
          ⟨some 4, .mv (.t 18), none⟩,
          ⟨some 5, .mv (.c .undef), none⟩] [4, 5])
      .ret))))

def t_strings_Builder_WriteString : List (List Nat × PT) := [([0, 1], .done), ([0, 1], .done), ([1], .done), ([4, 5], .done)]

noncomputable def x_strings_Builder_WriteString : Cx := ⟨Tryd.prog, 52, Tryd.f52, 19, [], [], [.t 4, .t 5]⟩
theorem g_strings_Builder_WriteString : Good x_strings_Builder_WriteString := ⟨Tryd.func52, by kernel_rfl⟩
theorem rs_strings_Builder_WriteString : x_strings_Builder_WriteString.rs = [.t 4, .t 5] := rfl
theorem k_strings_Builder_WriteString : compC Tryd.prog 19 [] [] (Tryd.f52.body.getD .skip) t_strings_Builder_WriteString = some (c_strings_Builder_WriteString, []) := by kernel_rfl
theorem b_strings_Builder_WriteString : Tryd.f52.body = some (Tryd.f52.body.getD .skip) := by kernel_rfl
theorem i_strings_Builder_WriteString {args : List AV} {σ : Heap} {K : AV → Heap → Prop} (hl : args.length ≤ 19) (h : Run x_strings_Builder_WriteString K [.code c_strings_Builder_WriteString] (argF args) E σ) : ACalls Tryd.prog 52 args σ K :=
  acalls_of (cx := x_strings_Builder_WriteString) g_strings_Builder_WriteString b_strings_Builder_WriteString Tryd.ntmps52 hl (compC_rc x_strings_Builder_WriteString _ _ _ _ k_strings_Builder_WriteString) h

/-! ### (*strings.Builder).String -/
def c_strings_Builder_String : C := (.seq (.reg [⟨some 2, .mv (.c (.d (.str []))), none⟩] [0])
   (.seq (.reg [⟨some 3, .mv (.t 0), none⟩,
        ⟨some 4, .nck (.t 3), none⟩,
        ⟨some 5, .fld (.t 4) 1, none⟩,
        ⟨some 6, .ld (.t 5) none, none⟩,
        ⟨some 7, .ex .usd [(.t 6)], none⟩,
        ⟨some 8, .mv (.t 0), none⟩,
        ⟨some 9, .nck (.t 8), none⟩,
        ⟨some 10, .fld (.t 9) 1, none⟩,
        ⟨some 11, .ld (.t 10) none, none⟩,
        ⟨some 12, .len (.t 11), none⟩,
        ⟨some 13, .ex (.ustr 5) [(.t 7), (.t 12)], none⟩,
        ⟨some 2, .mv (.t 13), none⟩] [2])
    .ret))

def t_strings_Builder_String : List (List Nat × PT) := [([0], .done), ([2], .done)]

noncomputable def x_strings_Builder_String : Cx := ⟨Tryd.prog, 55, Tryd.f55, 14, [], [], [.t 2]⟩
theorem g_strings_Builder_String : Good x_strings_Builder_String := ⟨Tryd.func55, by kernel_rfl⟩
theorem rs_strings_Builder_String : x_strings_Builder_String.rs = [.t 2] := rfl
theorem k_strings_Builder_String : compC Tryd.prog 14 [] [] (Tryd.f55.body.getD .skip) t_strings_Builder_String = some (c_strings_Builder_String, []) := by kernel_rfl
theorem b_strings_Builder_String : Tryd.f55.body = some (Tryd.f55.body.getD .skip) := by kernel_rfl
theorem i_strings_Builder_String {args : List AV} {σ : Heap} {K : AV → Heap → Prop} (hl : args.length ≤ 14) (h : Run x_strings_Builder_String K [.code c_strings_Builder_String] (argF args) E σ) : ACalls Tryd.prog 55 args σ K :=
  acalls_of (cx := x_strings_Builder_String) g_strings_Builder_String b_strings_Builder_String Tryd.ntmps55 hl (compC_rc x_strings_Builder_String _ _ _ _ k_strings_Builder_String) h

/-! ### amortcost/amortcostref19.number -/
/- slots of c_r19_number_L0 : [0, 3] -/
def c_r19_number_L0 : C := (.seq (.seq (.reg [⟨some 12, .mv (.t 0), none⟩,
        ⟨some 13, .bin .gtr (.t 12) (.c (.d (.int .i64 0))), none⟩] [0, 3, 13])
    (.cond (.t 13) .skip
     (.exit 0)))
   (.seq (.block 1 (.reg [⟨some 16, .mv (.t 0), none⟩,
         ⟨some 17, .bin .rem (.t 16) (.c (.d (.int .i64 10))), none⟩,
         ⟨some 18, .bin .add (.c (.d (.int .i64 48))) (.t 17), none⟩,
         ⟨some 19, .conv .u8 (.t 18), none⟩,
         ⟨some 20, .bsl 1 1 [(.d (.int .u8 0))] [(0, 1, (.t 19))], none⟩,
         ⟨some 21, .ex .b2s [(.t 20)], none⟩,
         ⟨some 22, .mv (.t 3), none⟩,
         ⟨some 23, .bin .add (.t 21) (.t 22), none⟩,
         ⟨some 3, .mv (.t 23), none⟩] [0, 3]))
    (.reg [⟨some 14, .mv (.t 0), none⟩,
        ⟨some 15, .bin .quo (.t 14) (.c (.d (.int .i64 10))), none⟩,
        ⟨some 0, .mv (.t 15), none⟩] [0, 3])))

def c_r19_number : C := (.seq (.reg [⟨some 2, .mv (.c (.d (.str []))), none⟩] [0])
   (.seq (.reg [⟨some 4, .mv (.t 0), none⟩,
        ⟨some 5, .bin .rem (.t 4) (.c (.d (.int .i64 10))), none⟩,
        ⟨some 6, .bin .add (.c (.d (.int .i64 48))) (.t 5), none⟩,
        ⟨some 7, .conv .u8 (.t 6), none⟩,
        ⟨some 8, .bsl 1 1 [(.d (.int .u8 0))] [(0, 1, (.t 7))], none⟩,
        ⟨some 9, .ex .b2s [(.t 8)], none⟩,
        ⟨some 3, .mv (.t 9), none⟩] [0, 3])
    (.seq (.seq (.reg [⟨some 10, .mv (.t 0), none⟩,
          ⟨some 11, .bin .quo (.t 10) (.c (.d (.int .i64 10))), none⟩,
          ⟨some 0, .mv (.t 11), none⟩] [0, 3])
      (.block 0 (.loop c_r19_number_L0)))
     (.seq (.reg [⟨some 24, .mv (.t 3), none⟩,
          ⟨some 2, .mv (.t 24), none⟩] [2])
      .ret))))

def t_r19_number : List (List Nat × PT) := [([0], .done), ([0, 3], .done), ([0, 3], .done), ([0, 3, 13], .done), ([0, 3], .done), ([0, 3], .done), ([2], .done)]

noncomputable def x_r19_number : Cx := ⟨Tryd.prog, 56, Tryd.f56, 25, [], [], [.t 2]⟩
theorem g_r19_number : Good x_r19_number := ⟨Tryd.func56, by kernel_rfl⟩
theorem rs_r19_number : x_r19_number.rs = [.t 2] := rfl
theorem k_r19_number : compC Tryd.prog 25 [] [] (Tryd.f56.body.getD .skip) t_r19_number = some (c_r19_number, []) := by kernel_rfl
theorem b_r19_number : Tryd.f56.body = some (Tryd.f56.body.getD .skip) := by kernel_rfl
theorem i_r19_number {args : List AV} {σ : Heap} {K : AV → Heap → Prop} (hl : args.length ≤ 25) (h : Run x_r19_number K [.code c_r19_number] (argF args) E σ) : ACalls Tryd.prog 56 args σ K :=
  acalls_of (cx := x_r19_number) g_r19_number b_r19_number Tryd.ntmps56 hl (compC_rc x_r19_number _ _ _ _ k_r19_number) h

/-! ### amortcost/linear.collect -/
/- slots of c_linear_collect_L0 : [4, 6, 7, 8, 9] -/
def c_linear_collect_L0 : C := (.seq (.seq (.reg [⟨some 26, .mv (.t 8), none⟩,
        ⟨some 27, .mv (.t 7), none⟩,
        ⟨some 28, .len (.t 27), none⟩,
        ⟨some 29, .bin .lss (.t 26) (.t 28), none⟩,
        ⟨some 30, .mv (.t 29), none⟩,
        ⟨some 31, .mv (.t 7), some (30, true)⟩,
        ⟨some 32, .mv (.t 8), some (30, true)⟩,
        ⟨some 33, .ix (.t 31) (.t 32) 2, some (30, true)⟩,
        ⟨some 34, .fld (.t 33) 0, some (30, true)⟩,
        ⟨some 35, .ld (.t 34) none, some (30, true)⟩,
        ⟨some 36, .fld (.t 9) 0, some (30, true)⟩,
        ⟨some 37, .ldl (.t 36) none, some (30, true)⟩,
        ⟨some 38, .bin .eql (.t 35) (.t 37), some (30, true)⟩,
        ⟨some 39, .pick (.t 30) (.t 38) (.c (.d (.bool false))), none⟩] [4, 6, 7, 8, 9, 39])
    (.cond (.t 39) .skip
     (.exit 2)))
   (.seq (.block 3 (.reg [⟨some 42, .fld (.t 9) 1, none⟩,
         ⟨some 43, .ldl (.t 42) none, none⟩,
         ⟨some 44, .mv (.t 7), none⟩,
         ⟨some 45, .mv (.t 8), none⟩,
         ⟨some 46, .ix (.t 44) (.t 45) 2, none⟩,
         ⟨some 47, .fld (.t 46) 1, none⟩,
         ⟨some 48, .ld (.t 47) none, none⟩,
         ⟨some 49, .bin .add (.t 43) (.t 48), none⟩,
         ⟨some 50, .fld (.t 9) 1, none⟩,
         ⟨none, .st (.t 50) (.t 49) 1, none⟩] [4, 6, 7, 8, 9]))
    (.reg [⟨some 40, .mv (.t 8), none⟩,
        ⟨some 41, .bin .add (.t 40) (.c (.d (.int .i64 1))), none⟩,
        ⟨some 8, .mv (.t 41), none⟩] [4, 6, 7, 8, 9])))

/- slots of c_linear_collect_L1 : [4, 6, 7, 8] -/
def c_linear_collect_L1 : C := (.seq (.seq (.reg [⟨some 16, .mv (.t 8), none⟩,
        ⟨some 17, .mv (.t 7), none⟩,
        ⟨some 18, .len (.t 17), none⟩,
        ⟨some 19, .bin .lss (.t 16) (.t 18), none⟩] [4, 6, 7, 8, 19])
    (.cond (.t 19) .skip
     (.exit 0)))
   (.block 1 (.seq (.reg [⟨some 20, .mv (.t 7), none⟩,
         ⟨some 21, .mv (.t 8), none⟩,
         ⟨some 22, .ix (.t 20) (.t 21) 2, none⟩,
         ⟨some 23, .fld (.t 22) 0, none⟩,
         ⟨some 24, .ld (.t 23) none, none⟩,
         ⟨some 25, .bld [(.d (.int .i64 0)), (.d (.int .i64 0))] [(0, 1, (.t 24))], none⟩,
         ⟨some 9, .al [(.d (.int .i64 0)), (.d (.int .i64 0))] false, none⟩,
         ⟨none, .st (.t 9) (.t 25) 2, none⟩] [4, 6, 7, 8, 9])
     (.seq (.block 2 (.loop c_linear_collect_L0))
      (.seq (.reg [⟨some 51, .fld (.t 9) 1, none⟩,
           ⟨some 52, .ldl (.t 51) none, none⟩,
           ⟨some 53, .bin .neq (.t 52) (.c (.d (.int .i64 0))), none⟩] [4, 6, 7, 8, 9, 53])
       (.cond (.t 53) (.reg [⟨some 54, .fld (.t 6) 1, none⟩,
            ⟨some 55, .ldl (.t 54) none, none⟩,
            ⟨some 56, .ldl (.t 9) (some 2), none⟩,
            ⟨some 57, .bsl 2 1 [(.d (.int .i64 0)), (.d (.int .i64 0))] [(0, 2, (.t 56))], none⟩,
            ⟨some 58, .app 49 2 16 (.t 55) (.t 57), none⟩,
            ⟨some 59, .fld (.t 6) 1, none⟩,
            ⟨none, .st (.t 59) (.t 58) 1, none⟩] [4, 6, 7, 8])
        .skip))))))

def c_linear_collect : C := (.seq (.reg [⟨some 4, .al [(.d (.int .i64 0)), .nils] false, none⟩,
       ⟨some 5, .mv (.c (.d (.int .i64 0))), none⟩] [0, 1, 4])
   (.seq (.reg [⟨some 10, .mv (.t 0), none⟩,
        ⟨some 11, .bld [(.d (.int .i64 0)), .nils] [(0, 1, (.t 10))], none⟩,
        ⟨some 6, .al [(.d (.int .i64 0)), .nils] false, none⟩,
        ⟨none, .st (.t 6) (.t 11) 2, none⟩] [1, 4, 6])
    (.seq (.reg [⟨some 12, .mv (.t 1), none⟩,
         ⟨some 13, .call 85 [(.t 12)], none⟩,
         ⟨some 7, .mv (.t 13), none⟩] [4, 6, 7])
     (.seq (.reg [⟨some 14, .mv (.t 7), none⟩,
          ⟨some 15, .call 86 [(.t 14), (.c (.fn 87 [] []))], none⟩] [4, 6, 7])
      (.seq (.seq (.reg [⟨some 8, .mv (.c (.d (.int .i64 0))), none⟩] [4, 6, 7, 8])
        (.block 0 (.loop c_linear_collect_L1)))
       (.seq (.seq (.reg [⟨some 60, .ldl (.t 6) (some 2), none⟩,
             ⟨some 61, .call 35 [(.t 60)], none⟩,
             ⟨some 62, .un .not (.t 61), none⟩] [4, 6, 62])
         (.cond (.t 62) (.seq (.reg [⟨some 63, .bld [(.d (.int .i64 0)), .nils] [], none⟩,
               ⟨none, .st (.t 4) (.t 63) 2, none⟩,
               ⟨some 5, .mv (.c (.d (.int .i64 9))), none⟩] [4, 5])
           .ret)
          .skip))
        (.seq (.reg [⟨some 64, .ldl (.t 6) (some 2), none⟩,
             ⟨none, .st (.t 4) (.t 64) 2, none⟩,
             ⟨some 5, .mv (.c (.d (.int .i64 0))), none⟩] [4, 5])
         .ret)))))))

def t_linear_collect : List (List Nat × PT) := [([0, 1, 4], .done), ([1, 4, 6], .done), ([4, 6, 7], .done), ([4, 6, 7], .done), ([4, 6, 7, 8], .done), ([4, 6, 7, 8, 19], .done), ([4, 6, 7, 8, 9], .done), ([4, 6, 7, 8, 9, 39], .done), ([4, 6, 7, 8, 9], .done), ([4, 6, 7, 8, 9], .done), ([4, 6, 7, 8, 9, 53], .done), ([4, 6, 7, 8], .done), ([4, 6, 62], .done), ([4, 5], .done), ([4, 5], .done)]

noncomputable def x_linear_collect : Cx := ⟨Tryd.prog, 57, Tryd.f57, 65, [300037, 300043, 300052, 300055, 300056, 300060, 300064], [], [.c 4 (some 2), .t 5]⟩
theorem g_linear_collect : Good x_linear_collect := ⟨Tryd.func57, by kernel_rfl⟩
theorem rs_linear_collect : x_linear_collect.rs = [.c 4 (some 2), .t 5] := rfl
theorem k_linear_collect : compC Tryd.prog 65 [300037, 300043, 300052, 300055, 300056, 300060, 300064] [] (Tryd.f57.body.getD .skip) t_linear_collect = some (c_linear_collect, []) := by kernel_rfl
theorem b_linear_collect : Tryd.f57.body = some (Tryd.f57.body.getD .skip) := by kernel_rfl
theorem i_linear_collect {args : List AV} {σ : Heap} {K : AV → Heap → Prop} (hl : args.length ≤ 65) (h : Run x_linear_collect K [.code c_linear_collect] (argF args) E σ) : ACalls Tryd.prog 57 args σ K :=
  acalls_of (cx := x_linear_collect) g_linear_collect b_linear_collect Tryd.ntmps57 hl (compC_rc x_linear_collect _ _ _ _ k_linear_collect) h

/-! ### slices.Concat(()amortcost/api.LinTerm,amortcost/api.LinTerm) -/
/- slots of c_slices_Concat_api_LinTerm_L0 : [0, 3, 9, 10, 11] -/
def c_slices_Concat_api_LinTerm_L0 : C := (.seq (.reg [⟨some 12, .bin .lss (.t 11) (.t 10), none⟩] [0, 3, 9, 10, 11, 12])
   (.seq (.cond (.t 12) .skip
     (.exit 0))
    (.seq (.block 1 (.seq (.reg [⟨some 13, .ix (.t 9) (.t 11) 1, none⟩,
           ⟨some 14, .ld (.t 13) none, none⟩,
           ⟨some 5, .mv (.t 14), none⟩] [0, 3, 5, 9, 10, 11])
       (.seq (.reg [⟨some 15, .mv (.t 3), none⟩,
            ⟨some 16, .mv (.t 5), none⟩,
            ⟨some 17, .len (.t 16), none⟩,
            ⟨some 18, .bin .add (.t 15) (.t 17), none⟩,
            ⟨some 3, .mv (.t 18), none⟩] [0, 3, 9, 10, 11])
        (.seq (.reg [⟨some 19, .mv (.t 3), none⟩,
             ⟨some 20, .bin .lss (.t 19) (.c (.d (.int .i64 0))), none⟩] [0, 3, 9, 10, 11, 20])
         (.cond (.t 20) .bad
          .skip)))))
     (.reg [⟨some 22, .bin .add (.t 11) (.c (.d (.int .i64 1))), none⟩,
         ⟨some 11, .mv (.t 22), none⟩] [0, 3, 9, 10, 11]))))

/- slots of c_slices_Concat_api_LinTerm_L1 : [6, 25, 26, 27] -/
def c_slices_Concat_api_LinTerm_L1 : C := (.seq (.reg [⟨some 28, .bin .lss (.t 27) (.t 26), none⟩] [6, 25, 26, 27, 28])
   (.seq (.cond (.t 28) .skip
     (.exit 2))
    (.seq (.block 3 (.seq (.reg [⟨some 29, .ix (.t 25) (.t 27) 1, none⟩,
           ⟨some 30, .ld (.t 29) none, none⟩,
           ⟨some 8, .mv (.t 30), none⟩] [6, 8, 25, 26, 27])
       (.reg [⟨some 31, .mv (.t 6), none⟩,
           ⟨some 32, .mv (.t 8), none⟩,
           ⟨some 33, .appm 49 2 16 (.t 31) (.t 32), none⟩,
           ⟨some 6, .mv (.t 33), none⟩] [6, 25, 26, 27])))
     (.reg [⟨some 34, .bin .add (.t 27) (.c (.d (.int .i64 1))), none⟩,
         ⟨some 27, .mv (.t 34), none⟩] [6, 25, 26, 27]))))

def c_slices_Concat_api_LinTerm : C := (.seq (.reg [⟨some 2, .mv (.c .nils), none⟩] [0])
   (.seq (.reg [⟨some 3, .mv (.c (.d (.int .i64 0))), none⟩] [0, 3])
    (.seq (.seq (.reg [⟨some 9, .mv (.t 0), none⟩,
          ⟨some 10, .len (.t 9), none⟩,
          ⟨some 11, .mv (.c (.d (.int .i64 0))), none⟩] [0, 3, 9, 10, 11])
      (.block 0 (.loop c_slices_Concat_api_LinTerm_L0)))
     (.seq (.reg [⟨some 23, .mv (.t 3), none⟩,
          ⟨some 24, .call 88 [(.c .nils), (.t 23)], none⟩,
          ⟨some 6, .mv (.t 24), none⟩] [0, 6])
      (.seq (.seq (.reg [⟨some 25, .mv (.t 0), none⟩,
            ⟨some 26, .len (.t 25), none⟩,
            ⟨some 27, .mv (.c (.d (.int .i64 0))), none⟩] [6, 25, 26, 27])
        (.block 2 (.loop c_slices_Concat_api_LinTerm_L1)))
       (.seq (.reg [⟨some 35, .mv (.t 6), none⟩,
            ⟨some 2, .mv (.t 35), none⟩] [2])
        .ret))))))

def t_slices_Concat_api_LinTerm : List (List Nat × PT) := [([0], .done), ([0, 3], .done), ([0, 3, 9, 10, 11], .done), ([0, 3, 9, 10, 11, 12], .done), ([0, 3, 5, 9, 10, 11], .done), ([0, 3, 9, 10, 11], .done), ([0, 3, 9, 10, 11, 20], .done), ([], .done), ([0, 3, 9, 10, 11], .done), ([0, 6], .done), ([6, 25, 26, 27], .done), ([6, 25, 26, 27, 28], .done), ([6, 8, 25, 26, 27], .done), ([6, 25, 26, 27], .done), ([6, 25, 26, 27], .done), ([2], .done)]

noncomputable def x_slices_Concat_api_LinTerm : Cx := ⟨Tryd.prog, 58, Tryd.f58, 36, [33], [], [.t 2]⟩
theorem g_slices_Concat_api_LinTerm : Good x_slices_Concat_api_LinTerm := ⟨Tryd.func58, by kernel_rfl⟩
theorem rs_slices_Concat_api_LinTerm : x_slices_Concat_api_LinTerm.rs = [.t 2] := rfl
theorem k_slices_Concat_api_LinTerm : compC Tryd.prog 36 [33] [] (Tryd.f58.body.getD .skip) t_slices_Concat_api_LinTerm = some (c_slices_Concat_api_LinTerm, []) := by kernel_rfl
theorem b_slices_Concat_api_LinTerm : Tryd.f58.body = some (Tryd.f58.body.getD .skip) := by kernel_rfl
theorem i_slices_Concat_api_LinTerm {args : List AV} {σ : Heap} {K : AV → Heap → Prop} (hl : args.length ≤ 36) (h : Run x_slices_Concat_api_LinTerm K [.code c_slices_Concat_api_LinTerm] (argF args) E σ) : ACalls Tryd.prog 58 args σ K :=
  acalls_of (cx := x_slices_Concat_api_LinTerm) g_slices_Concat_api_LinTerm b_slices_Concat_api_LinTerm Tryd.ntmps58 hl (compC_rc x_slices_Concat_api_LinTerm _ _ _ _ k_slices_Concat_api_LinTerm) h

/-! ### amortcost/amortcostref19.checked -/
def c_r19_checked : C := (.seq (.reg [⟨some 1, .box (.t 0) false, none⟩,
       ⟨some 2, .al [(.d (.int .i64 0)), .nils] false, none⟩,
       ⟨some 3, .mv (.c (.d (.int .i64 0))), none⟩] [1, 2])
   (.seq (.seq (.reg [⟨some 4, .ldl (.t 1) (some 2), none⟩,
         ⟨some 5, .call 26 [(.t 4)], none⟩,
         ⟨some 6, .un .not (.t 5), none⟩] [1, 2, 6])
     (.cond (.t 6) (.seq (.reg [⟨some 7, .bld [(.d (.int .i64 0)), .nils] [], none⟩,
           ⟨none, .st (.t 2) (.t 7) 2, none⟩,
           ⟨some 3, .mv (.c (.d (.int .i64 9))), none⟩] [2, 3])
       .ret)
      .skip))
    (.seq (.reg [⟨some 8, .ldl (.t 1) (some 2), none⟩,
         ⟨none, .st (.t 2) (.t 8) 2, none⟩,
         ⟨some 3, .mv (.c (.d (.int .i64 0))), none⟩] [2, 3])
     .ret)))

def t_r19_checked : List (List Nat × PT) := [([1, 2], .done), ([1, 2, 6], .done), ([2, 3], .done), ([2, 3], .done)]

noncomputable def x_r19_checked : Cx := ⟨Tryd.prog, 59, Tryd.f59, 9, [300004, 300008], [], [.c 2 (some 2), .t 3]⟩
theorem g_r19_checked : Good x_r19_checked := ⟨Tryd.func59, by kernel_rfl⟩
theorem rs_r19_checked : x_r19_checked.rs = [.c 2 (some 2), .t 3] := rfl
theorem k_r19_checked : compC Tryd.prog 9 [300004, 300008] [] (Tryd.f59.body.getD .skip) t_r19_checked = some (c_r19_checked, []) := by kernel_rfl
theorem b_r19_checked : Tryd.f59.body = some (Tryd.f59.body.getD .skip) := by kernel_rfl
theorem i_r19_checked {args : List AV} {σ : Heap} {K : AV → Heap → Prop} (hl : args.length ≤ 9) (h : Run x_r19_checked K [.code c_r19_checked] (argF args) E σ) : ACalls Tryd.prog 59 args σ K :=
  acalls_of (cx := x_r19_checked) g_r19_checked b_r19_checked Tryd.ntmps59 hl (compC_rc x_r19_checked _ _ _ _ k_r19_checked) h

/-! ### amortcost/amortcostref19.plus -/
/- slots of c_r19_plus_L0 : [2, 6, 7, 22, 23, 24] -/
def c_r19_plus_L0 : C := (.seq (.reg [⟨some 25, .bin .lss (.t 24) (.t 23), none⟩] [2, 6, 7, 22, 23, 24, 25])
   (.seq (.cond (.t 25) .skip
     (.exit 0))
    (.seq (.block 1 (.seq (.reg [⟨some 26, .ix (.t 22) (.t 24) 2, none⟩,
           ⟨some 27, .ld (.t 26) (some 2), none⟩,
           ⟨some 9, .al [(.d (.int .i64 0)), (.d (.int .i64 0))] false, none⟩,
           ⟨none, .st (.t 9) (.t 27) 2, none⟩] [2, 6, 7, 9, 22, 23, 24])
       (.reg [⟨some 28, .fld (.t 7) 1, none⟩,
           ⟨some 29, .ldl (.t 28) none, none⟩,
           ⟨some 30, .fld (.t 9) 0, none⟩,
           ⟨some 31, .ldl (.t 30) none, none⟩,
           ⟨some 32, .mv (.t 2), none⟩,
           ⟨some 33, .fld (.t 9) 1, none⟩,
           ⟨some 34, .ldl (.t 33) none, none⟩,
           ⟨some 35, .bin .mul (.t 32) (.t 34), none⟩,
           ⟨some 36, .call 63 [(.t 29), (.t 31), (.t 35)], none⟩,
           ⟨some 37, .fld (.t 7) 1, none⟩,
           ⟨none, .st (.t 37) (.t 36) 1, none⟩] [2, 6, 7, 22, 23, 24])))
     (.reg [⟨some 38, .bin .add (.t 24) (.c (.d (.int .i64 1))), none⟩,
         ⟨some 24, .mv (.t 38), none⟩] [2, 6, 7, 22, 23, 24]))))

def c_r19_plus : C := (.seq (.reg [⟨some 3, .box (.t 0) false, none⟩,
       ⟨some 4, .box (.t 1) false, none⟩,
       ⟨some 6, .al [(.d (.int .i64 0)), .nils] false, none⟩] [2, 3, 4, 6])
   (.seq (.reg [⟨some 7, .al [(.d (.int .i64 0)), .nils] false, none⟩,
        ⟨some 10, .fld (.t 3) 0, none⟩,
        ⟨some 11, .ldl (.t 10) none, none⟩,
        ⟨some 12, .mv (.t 2), none⟩,
        ⟨some 13, .fld (.t 4) 0, none⟩,
        ⟨some 14, .ldl (.t 13) none, none⟩,
        ⟨some 15, .bin .mul (.t 12) (.t 14), none⟩,
        ⟨some 16, .bin .add (.t 11) (.t 15), none⟩,
        ⟨some 17, .fld (.t 3) 1, none⟩,
        ⟨some 18, .ldl (.t 17) none, none⟩,
        ⟨some 19, .appm 49 2 16 (.c .nils) (.t 18), none⟩,
        ⟨some 20, .bld [(.d (.int .i64 0)), .nils] [(0, 1, (.t 16)), (1, 1, (.t 19))], none⟩,
        ⟨none, .st (.t 7) (.t 20) 2, none⟩] [2, 4, 6, 7])
    (.seq (.seq (.reg [⟨some 21, .fld (.t 4) 1, none⟩,
          ⟨some 22, .ldl (.t 21) none, none⟩,
          ⟨some 23, .len (.t 22), none⟩,
          ⟨some 24, .mv (.c (.d (.int .i64 0))), none⟩] [2, 6, 7, 22, 23, 24])
      (.block 0 (.loop c_r19_plus_L0)))
     (.seq (.reg [⟨some 39, .ldl (.t 7) (some 2), none⟩,
          ⟨none, .st (.t 6) (.t 39) 2, none⟩] [6])
      .ret))))

def t_r19_plus : List (List Nat × PT) := [([2, 3, 4, 6], .done), ([2, 4, 6, 7], (.lay 11 (.one 0 (.one 1 (.one 2 (.one 3 (.one 4 (.one 5 (.one 6 (.one 7 (.one 8 (.one 9 (.one 10 (.one 12 .done)))))))))))))), ([2, 6, 7, 22, 23, 24], .done), ([2, 6, 7, 22, 23, 24, 25], .done), ([2, 6, 7, 9, 22, 23, 24], .done), ([2, 6, 7, 22, 23, 24], .done), ([2, 6, 7, 22, 23, 24], .done), ([6], .done)]

noncomputable def x_r19_plus : Cx := ⟨Tryd.prog, 60, Tryd.f60, 40, [19, 300011, 300014, 300018, 300022, 300029, 300031, 300034, 300039], [], [.c 6 (some 2)]⟩
theorem g_r19_plus : Good x_r19_plus := ⟨Tryd.func60, by kernel_rfl⟩
theorem rs_r19_plus : x_r19_plus.rs = [.c 6 (some 2)] := rfl
theorem k_r19_plus : compC Tryd.prog 40 [19, 300011, 300014, 300018, 300022, 300029, 300031, 300034, 300039] [] (Tryd.f60.body.getD .skip) t_r19_plus = some (c_r19_plus, []) := by kernel_rfl
theorem b_r19_plus : Tryd.f60.body = some (Tryd.f60.body.getD .skip) := by kernel_rfl
theorem i_r19_plus {args : List AV} {σ : Heap} {K : AV → Heap → Prop} (hl : args.length ≤ 40) (h : Run x_r19_plus K [.code c_r19_plus] (argF args) E σ) : ACalls Tryd.prog 60 args σ K :=
  acalls_of (cx := x_r19_plus) g_r19_plus b_r19_plus Tryd.ntmps60 hl (compC_rc x_r19_plus _ _ _ _ k_r19_plus) h

/-! ### amortcost/linear.times -/
/- slots of c_linear_times_L0 : [1, 5, 10, 11] -/
def c_linear_times_L0 : C := (.seq (.reg [⟨some 12, .bin .lss (.t 11) (.t 10), none⟩] [1, 5, 10, 11, 12])
   (.seq (.cond (.t 12) .skip
     (.exit 0))
    (.seq (.block 1 (.seq (.reg [⟨some 13, .mv (.t 11), none⟩,
           ⟨some 6, .mv (.t 13), none⟩] [1, 5, 6, 10, 11])
       (.reg [⟨some 14, .mv (.t 5), none⟩,
           ⟨some 15, .mv (.t 6), none⟩,
           ⟨some 16, .ix (.t 14) (.t 15) 2, none⟩,
           ⟨some 17, .fld (.t 16) 1, none⟩,
           ⟨some 18, .ld (.t 17) none, none⟩,
           ⟨some 19, .mv (.t 1), none⟩,
           ⟨some 20, .bin .mul (.t 18) (.t 19), none⟩,
           ⟨some 21, .ix (.t 14) (.t 15) 2, none⟩,
           ⟨some 22, .fld (.t 21) 1, none⟩,
           ⟨none, .st (.t 22) (.t 20) 1, none⟩] [1, 5, 10, 11])))
     (.reg [⟨some 23, .bin .add (.t 11) (.c (.d (.int .i64 1))), none⟩,
         ⟨some 11, .mv (.t 23), none⟩] [1, 5, 10, 11]))))

def c_linear_times : C := (.seq (.reg [⟨some 4, .mv (.c .nils), none⟩] [0, 1])
   (.seq (.reg [⟨some 7, .mv (.t 0), none⟩,
        ⟨some 8, .call 85 [(.t 7)], none⟩,
        ⟨some 5, .mv (.t 8), none⟩] [1, 5])
    (.seq (.seq (.reg [⟨some 9, .mv (.t 5), none⟩,
          ⟨some 10, .len (.t 9), none⟩,
          ⟨some 11, .mv (.c (.d (.int .i64 0))), none⟩] [1, 5, 10, 11])
      (.block 0 (.loop c_linear_times_L0)))
     (.seq (.reg [⟨some 24, .mv (.t 5), none⟩,
          ⟨some 4, .mv (.t 24), none⟩] [4])
      .ret))))

def t_linear_times : List (List Nat × PT) := [([0, 1], .done), ([1, 5], .done), ([1, 5, 10, 11], .done), ([1, 5, 10, 11, 12], .done), ([1, 5, 6, 10, 11], .done), ([1, 5, 10, 11], .done), ([1, 5, 10, 11], .done), ([4], .done)]

noncomputable def x_linear_times : Cx := ⟨Tryd.prog, 61, Tryd.f61, 25, [], [], [.t 4]⟩
theorem g_linear_times : Good x_linear_times := ⟨Tryd.func61, by kernel_rfl⟩
theorem rs_linear_times : x_linear_times.rs = [.t 4] := rfl
theorem k_linear_times : compC Tryd.prog 25 [] [] (Tryd.f61.body.getD .skip) t_linear_times = some (c_linear_times, []) := by kernel_rfl
theorem b_linear_times : Tryd.f61.body = some (Tryd.f61.body.getD .skip) := by kernel_rfl
theorem i_linear_times {args : List AV} {σ : Heap} {K : AV → Heap → Prop} (hl : args.length ≤ 25) (h : Run x_linear_times K [.code c_linear_times] (argF args) E σ) : ACalls Tryd.prog 61 args σ K :=
  acalls_of (cx := x_linear_times) g_linear_times b_linear_times Tryd.ntmps61 hl (compC_rc x_linear_times _ _ _ _ k_linear_times) h

/-! ### amortcost/linear.large -/
def c_linear_large : C := (.seq (.reg [⟨some 2, .mv (.c (.d (.bool false))), none⟩] [0])
   (.seq (.reg [⟨some 3, .mv (.t 0), none⟩,
        ⟨some 4, .bin .lss (.t 3) (.c (.d (.int .i64 (-1099511627776)))), none⟩,
        ⟨some 5, .mv (.t 4), none⟩,
        ⟨some 6, .mv (.t 0), some (5, false)⟩,
        ⟨some 7, .bin .gtr (.t 6) (.c (.d (.int .i64 1099511627776))), some (5, false)⟩,
        ⟨some 8, .pick (.t 5) (.c (.d (.bool true))) (.t 7), none⟩,
        ⟨some 2, .mv (.t 8), none⟩] [2])
    .ret))

def t_linear_large : List (List Nat × PT) := [([0], .done), ([2], .done)]

noncomputable def x_linear_large : Cx := ⟨Tryd.prog, 62, Tryd.f62, 9, [], [], [.t 2]⟩
theorem g_linear_large : Good x_linear_large := ⟨Tryd.func62, by kernel_rfl⟩
theorem rs_linear_large : x_linear_large.rs = [.t 2] := rfl
theorem k_linear_large : compC Tryd.prog 9 [] [] (Tryd.f62.body.getD .skip) t_linear_large = some (c_linear_large, []) := by kernel_rfl
theorem b_linear_large : Tryd.f62.body = some (Tryd.f62.body.getD .skip) := by kernel_rfl
theorem i_linear_large {args : List AV} {σ : Heap} {K : AV → Heap → Prop} (hl : args.length ≤ 9) (h : Run x_linear_large K [.code c_linear_large] (argF args) E σ) : ACalls Tryd.prog 62 args σ K :=
  acalls_of (cx := x_linear_large) g_linear_large b_linear_large Tryd.ntmps62 hl (compC_rc x_linear_large _ _ _ _ k_linear_large) h

/-! ### amortcost/amortcostref19.sum -/
/- slots of c_r19_sum_L0 : [0, 1, 2, 7] -/
def c_r19_sum_L0 : C := (.seq (.seq (.reg [⟨some 8, .mv (.t 7), none⟩,
        ⟨some 9, .mv (.t 0), none⟩,
        ⟨some 10, .len (.t 9), none⟩,
        ⟨some 11, .bin .lss (.t 8) (.t 10), none⟩,
        ⟨some 12, .mv (.t 11), none⟩,
        ⟨some 13, .mv (.t 0), some (12, true)⟩,
        ⟨some 14, .mv (.t 7), some (12, true)⟩,
        ⟨some 15, .ix (.t 13) (.t 14) 2, some (12, true)⟩,
        ⟨some 16, .fld (.t 15) 0, some (12, true)⟩,
        ⟨some 17, .ld (.t 16) none, some (12, true)⟩,
        ⟨some 18, .mv (.t 1), some (12, true)⟩,
        ⟨some 19, .bin .lss (.t 17) (.t 18), some (12, true)⟩,
        ⟨some 20, .pick (.t 12) (.t 19) (.c (.d (.bool false))), none⟩] [0, 1, 2, 7, 20])
    (.cond (.t 20) .skip
     (.exit 0)))
   (.block 1 (.reg [⟨some 21, .mv (.t 7), none⟩,
        ⟨some 22, .bin .add (.t 21) (.c (.d (.int .i64 1))), none⟩,
        ⟨some 7, .mv (.t 22), none⟩] [0, 1, 2, 7])))

def c_r19_sum : C := (.seq (.reg [⟨some 6, .mv (.c .nils), none⟩] [0, 1, 2])
   (.seq (.reg [⟨some 7, .mv (.c (.d (.int .i64 0))), none⟩] [0, 1, 2, 7])
    (.seq (.block 0 (.loop c_r19_sum_L0))
     (.seq (.seq (.reg [⟨some 23, .mv (.t 7), none⟩,
           ⟨some 24, .mv (.t 0), none⟩,
           ⟨some 25, .len (.t 24), none⟩,
           ⟨some 26, .bin .lss (.t 23) (.t 25), none⟩,
           ⟨some 27, .mv (.t 26), none⟩,
           ⟨some 28, .mv (.t 0), some (27, true)⟩,
           ⟨some 29, .mv (.t 7), some (27, true)⟩,
           ⟨some 30, .ix (.t 28) (.t 29) 2, some (27, true)⟩,
           ⟨some 31, .fld (.t 30) 0, some (27, true)⟩,
           ⟨some 32, .ld (.t 31) none, some (27, true)⟩,
           ⟨some 33, .mv (.t 1), some (27, true)⟩,
           ⟨some 34, .bin .eql (.t 32) (.t 33), some (27, true)⟩,
           ⟨some 35, .pick (.t 27) (.t 34) (.c (.d (.bool false))), none⟩] [0, 1, 2, 7, 35])
       (.cond (.t 35) (.seq (.reg [⟨some 36, .mv (.t 0), none⟩,
             ⟨some 37, .mv (.t 7), none⟩,
             ⟨some 38, .ix (.t 36) (.t 37) 2, none⟩,
             ⟨some 39, .fld (.t 38) 1, none⟩,
             ⟨some 40, .ld (.t 39) none, none⟩,
             ⟨some 41, .mv (.t 2), none⟩,
             ⟨some 42, .bin .add (.t 40) (.t 41), none⟩,
             ⟨some 43, .ix (.t 36) (.t 37) 2, none⟩,
             ⟨some 44, .fld (.t 43) 1, none⟩,
             ⟨none, .st (.t 44) (.t 42) 1, none⟩] [0, 7])
         (.seq (.seq (.reg [⟨some 45, .mv (.t 0), none⟩,
               ⟨some 46, .mv (.t 7), none⟩,
               ⟨some 47, .ix (.t 45) (.t 46) 2, none⟩,
               ⟨some 48, .fld (.t 47) 1, none⟩,
               ⟨some 49, .ld (.t 48) none, none⟩,
               ⟨some 50, .bin .eql (.t 49) (.c (.d (.int .i64 0))), none⟩] [0, 7, 50])
           (.cond (.t 50) (.reg [⟨some 51, .mv (.t 0), none⟩,
                ⟨some 52, .mv (.t 7), none⟩,
                ⟨some 53, .sls (.t 51) none (some (.t 52)) none 2, none⟩,
                ⟨some 54, .mv (.t 0), none⟩,
                ⟨some 55, .mv (.t 7), none⟩,
                ⟨some 56, .bin .add (.t 55) (.c (.d (.int .i64 1))), none⟩,
                ⟨some 57, .sls (.t 54) (some (.t 56)) none none 2, none⟩,
                ⟨some 58, .ex (.appv 49 2) [(.t 53), (.t 57)], none⟩,
                ⟨some 0, .mv (.t 58), none⟩] [0])
            .skip))
          (.seq (.reg [⟨some 59, .mv (.t 0), none⟩,
               ⟨some 6, .mv (.t 59), none⟩] [6])
           .ret)))
        .skip))
      (.seq (.seq (.reg [⟨some 60, .mv (.t 2), none⟩,
            ⟨some 61, .bin .eql (.t 60) (.c (.d (.int .i64 0))), none⟩] [0, 1, 2, 7, 61])
        (.cond (.t 61) (.seq (.reg [⟨some 62, .mv (.t 0), none⟩,
              ⟨some 6, .mv (.t 62), none⟩] [6])
          .ret)
         .skip))
       (.seq (.reg [⟨some 63, .mv (.t 0), none⟩,
            ⟨some 64, .bld [(.d (.int .i64 0)), (.d (.int .i64 0))] [], none⟩,
            ⟨some 65, .bsl 2 1 [(.d (.int .i64 0)), (.d (.int .i64 0))] [(0, 2, (.t 64))], none⟩,
            ⟨some 66, .appm 49 2 16 (.t 63) (.t 65), none⟩,
            ⟨some 0, .mv (.t 66), none⟩] [0, 1, 2, 7])
        (.seq (.reg [⟨some 67, .mv (.t 0), none⟩,
             ⟨some 68, .mv (.t 7), none⟩,
             ⟨some 69, .bin .add (.t 68) (.c (.d (.int .i64 1))), none⟩,
             ⟨some 70, .sls (.t 67) (some (.t 69)) none none 2, none⟩,
             ⟨some 71, .mv (.t 0), none⟩,
             ⟨some 72, .mv (.t 7), none⟩,
             ⟨some 73, .sls (.t 71) (some (.t 72)) none none 2, none⟩,
             ⟨some 74, .ex (.cpy 2) [(.t 70), (.t 73)], none⟩] [0, 1, 2, 7])
         (.seq (.reg [⟨some 75, .mv (.t 0), none⟩,
              ⟨some 76, .mv (.t 7), none⟩,
              ⟨some 77, .mv (.t 1), none⟩,
              ⟨some 78, .mv (.t 2), none⟩,
              ⟨some 79, .bld [(.d (.int .i64 0)), (.d (.int .i64 0))] [(0, 1, (.t 77)), (1, 1, (.t 78))], none⟩,
              ⟨some 80, .ix (.t 75) (.t 76) 2, none⟩,
              ⟨none, .st (.t 80) (.t 79) 2, none⟩] [0])
          (.seq (.reg [⟨some 81, .mv (.t 0), none⟩,
               ⟨some 6, .mv (.t 81), none⟩] [6])
           .ret)))))))))

def t_r19_sum : List (List Nat × PT) := [([0, 1, 2], .done), ([0, 1, 2, 7], .done), ([0, 1, 2, 7, 20], .done), ([0, 1, 2, 7], .done), ([0, 1, 2, 7, 35], .done), ([0, 7], .done), ([0, 7, 50], .done), ([0], .done), ([6], .done), ([0, 1, 2, 7, 61], .done), ([6], .done), ([0, 1, 2, 7], .done), ([0, 1, 2, 7], .done), ([0], .done), ([6], .done)]

noncomputable def x_r19_sum : Cx := ⟨Tryd.prog, 63, Tryd.f63, 82, [66, 100058], [], [.t 6]⟩
theorem g_r19_sum : Good x_r19_sum := ⟨Tryd.func63, by kernel_rfl⟩
theorem rs_r19_sum : x_r19_sum.rs = [.t 6] := rfl
theorem k_r19_sum : compC Tryd.prog 82 [66, 100058] [] (Tryd.f63.body.getD .skip) t_r19_sum = some (c_r19_sum, []) := by kernel_rfl
theorem b_r19_sum : Tryd.f63.body = some (Tryd.f63.body.getD .skip) := by kernel_rfl
theorem i_r19_sum {args : List AV} {σ : Heap} {K : AV → Heap → Prop} (hl : args.length ≤ 82) (h : Run x_r19_sum K [.code c_r19_sum] (argF args) E σ) : ACalls Tryd.prog 63 args σ K :=
  acalls_of (cx := x_r19_sum) g_r19_sum b_r19_sum Tryd.ntmps63 hl (compC_rc x_r19_sum _ _ _ _ k_r19_sum) h

/-! ### cmp.Compare(int) -/
def c_cmp_Compare_int : C := (.seq (.reg [⟨some 4, .mv (.c (.d (.int .i64 0))), none⟩] [0, 1])
   (.seq (.reg [⟨some 7, .mv (.t 0), none⟩,
        ⟨some 8, .call 89 [(.t 7)], none⟩,
        ⟨some 5, .mv (.t 8), none⟩] [0, 1, 5])
    (.seq (.reg [⟨some 9, .mv (.t 1), none⟩,
         ⟨some 10, .call 89 [(.t 9)], none⟩,
         ⟨some 6, .mv (.t 10), none⟩] [0, 1, 5, 6])
     (.seq (.seq (.reg [⟨some 11, .mv (.t 5), none⟩] [0, 1, 6, 11])
       (.cond (.t 11) (.seq (.seq (.reg [⟨some 12, .mv (.t 6), none⟩] [12])
          (.cond (.t 12) (.seq (.reg [⟨some 4, .mv (.c (.d (.int .i64 0))), none⟩] [4])
            .ret)
           .skip))
         (.seq (.reg [⟨some 4, .mv (.c (.d (.int .i64 (-1)))), none⟩] [4])
          .ret))
        .skip))
      (.seq (.seq (.reg [⟨some 13, .mv (.t 6), none⟩] [0, 1, 13])
        (.cond (.t 13) (.seq (.reg [⟨some 4, .mv (.c (.d (.int .i64 1))), none⟩] [4])
          .ret)
         .skip))
       (.seq (.seq (.reg [⟨some 14, .mv (.t 0), none⟩,
             ⟨some 15, .mv (.t 1), none⟩,
             ⟨some 16, .bin .lss (.t 14) (.t 15), none⟩] [0, 1, 16])
         (.cond (.t 16) (.seq (.reg [⟨some 4, .mv (.c (.d (.int .i64 (-1)))), none⟩] [4])
           .ret)
          .skip))
        (.seq (.seq (.reg [⟨some 17, .mv (.t 0), none⟩,
              ⟨some 18, .mv (.t 1), none⟩,
              ⟨some 19, .bin .gtr (.t 17) (.t 18), none⟩] [19])
          (.cond (.t 19) (.seq (.reg [⟨some 4, .mv (.c (.d (.int .i64 1))), none⟩] [4])
            .ret)
           .skip))
         (.seq (.reg [⟨some 4, .mv (.c (.d (.int .i64 0))), none⟩] [4])
          .ret))))))))

def t_cmp_Compare_int : List (List Nat × PT) := [([0, 1], .done), ([0, 1, 5], .done), ([0, 1, 5, 6], .done), ([0, 1, 6, 11], .done), ([12], .done), ([4], .done), ([4], .done), ([0, 1, 13], .done), ([4], .done), ([0, 1, 16], .done), ([4], .done), ([19], .done), ([4], .done), ([4], .done)]

noncomputable def x_cmp_Compare_int : Cx := ⟨Tryd.prog, 64, Tryd.f64, 20, [], [], [.t 4]⟩
theorem g_cmp_Compare_int : Good x_cmp_Compare_int := ⟨Tryd.func64, by kernel_rfl⟩
theorem rs_cmp_Compare_int : x_cmp_Compare_int.rs = [.t 4] := rfl
theorem k_cmp_Compare_int : compC Tryd.prog 20 [] [] (Tryd.f64.body.getD .skip) t_cmp_Compare_int = some (c_cmp_Compare_int, []) := by kernel_rfl
theorem b_cmp_Compare_int : Tryd.f64.body = some (Tryd.f64.body.getD .skip) := by kernel_rfl
theorem i_cmp_Compare_int {args : List AV} {σ : Heap} {K : AV → Heap → Prop} (hl : args.length ≤ 20) (h : Run x_cmp_Compare_int K [.code c_cmp_Compare_int] (argF args) E σ) : ACalls Tryd.prog 64 args σ K :=
  acalls_of (cx := x_cmp_Compare_int) g_cmp_Compare_int b_cmp_Compare_int Tryd.ntmps64 hl (compC_rc x_cmp_Compare_int _ _ _ _ k_cmp_Compare_int) h

/-! ### slices.Clone(()amortcost/api.LinTerm,amortcost/api.LinTerm) -/
def c_slices_Clone_api_LinTerm : C := (.seq (.reg [⟨some 2, .mv (.c .nils), none⟩] [0])
   (.seq (.seq (.reg [⟨some 3, .mv (.t 0), none⟩,
         ⟨some 4, .ex (.snil false) [(.t 3)], none⟩] [0, 4])
     (.cond (.t 4) (.seq (.reg [⟨some 2, .mv (.c .nils), none⟩] [2])
       .ret)
      .skip))
    (.seq (.reg [⟨some 5, .bslm 49 2 0 [] [], none⟩,
         ⟨some 6, .mv (.t 0), none⟩,
         ⟨some 7, .appm 49 2 16 (.t 5) (.t 6), none⟩,
         ⟨some 2, .mv (.t 7), none⟩] [2])
     .ret)))

def t_slices_Clone_api_LinTerm : List (List Nat × PT) := [([0], .done), ([0, 4], .done), ([2], .done), ([2], .done)]

noncomputable def x_slices_Clone_api_LinTerm : Cx := ⟨Tryd.prog, 85, Tryd.f85, 8, [5, 7], [], [.t 2]⟩
theorem g_slices_Clone_api_LinTerm : Good x_slices_Clone_api_LinTerm := ⟨Tryd.func85, by kernel_rfl⟩
theorem rs_slices_Clone_api_LinTerm : x_slices_Clone_api_LinTerm.rs = [.t 2] := rfl
theorem k_slices_Clone_api_LinTerm : compC Tryd.prog 8 [5, 7] [] (Tryd.f85.body.getD .skip) t_slices_Clone_api_LinTerm = some (c_slices_Clone_api_LinTerm, []) := by kernel_rfl
theorem b_slices_Clone_api_LinTerm : Tryd.f85.body = some (Tryd.f85.body.getD .skip) := by kernel_rfl
theorem i_slices_Clone_api_LinTerm {args : List AV} {σ : Heap} {K : AV → Heap → Prop} (hl : args.length ≤ 8) (h : Run x_slices_Clone_api_LinTerm K [.code c_slices_Clone_api_LinTerm] (argF args) E σ) : ACalls Tryd.prog 85 args σ K :=
  acalls_of (cx := x_slices_Clone_api_LinTerm) g_slices_Clone_api_LinTerm b_slices_Clone_api_LinTerm Tryd.ntmps85 hl (compC_rc x_slices_Clone_api_LinTerm _ _ _ _ k_slices_Clone_api_LinTerm) h

/-! ### amortcost/linear.collect$1 -/
def c_linear_collect_1 : C := (.seq (.reg [⟨some 2, .box (.t 0) false, none⟩,
       ⟨some 3, .box (.t 1) false, none⟩,
       ⟨some 4, .mv (.c (.d (.int .i64 0))), none⟩] [2, 3])
   (.seq (.reg [⟨some 5, .fld (.t 2) 0, none⟩,
        ⟨some 6, .ldl (.t 5) none, none⟩,
        ⟨some 7, .fld (.t 3) 0, none⟩,
        ⟨some 8, .ldl (.t 7) none, none⟩,
        ⟨some 9, .call 64 [(.t 6), (.t 8)], none⟩,
        ⟨some 4, .mv (.t 9), none⟩] [4])
    .ret))

def t_linear_collect_1 : List (List Nat × PT) := [([2, 3], .done), ([4], .done)]

noncomputable def x_linear_collect_1 : Cx := ⟨Tryd.prog, 87, Tryd.f87, 10, [300006, 300008], [], [.t 4]⟩
theorem g_linear_collect_1 : Good x_linear_collect_1 := ⟨Tryd.func87, by kernel_rfl⟩
theorem rs_linear_collect_1 : x_linear_collect_1.rs = [.t 4] := rfl
theorem k_linear_collect_1 : compC Tryd.prog 10 [300006, 300008] [] (Tryd.f87.body.getD .skip) t_linear_collect_1 = some (c_linear_collect_1, []) := by kernel_rfl
theorem b_linear_collect_1 : Tryd.f87.body = some (Tryd.f87.body.getD .skip) := by kernel_rfl
theorem i_linear_collect_1 {args : List AV} {σ : Heap} {K : AV → Heap → Prop} (hl : args.length ≤ 10) (h : Run x_linear_collect_1 K [.code c_linear_collect_1] (argF args) E σ) : ACalls Tryd.prog 87 args σ K :=
  acalls_of (cx := x_linear_collect_1) g_linear_collect_1 b_linear_collect_1 Tryd.ntmps87 hl (compC_rc x_linear_collect_1 _ _ _ _ k_linear_collect_1) h

/-! ### slices.Grow(()amortcost/api.LinTerm,amortcost/api.LinTerm) -/
def c_slices_Grow_api_LinTerm : C := (.seq (.reg [⟨some 4, .mv (.c .nils), none⟩] [0, 1])
   (.seq (.seq (.reg [⟨some 5, .mv (.t 1), none⟩,
         ⟨some 6, .bin .lss (.t 5) (.c (.d (.int .i64 0))), none⟩] [0, 1, 6])
     (.cond (.t 6) .bad
      .skip))
    (.seq (.seq (.reg [⟨some 8, .mv (.t 1), none⟩,
          ⟨some 9, .mv (.t 0), none⟩,
          ⟨some 10, .ex .cap [(.t 9)], none⟩,
          ⟨some 11, .mv (.t 0), none⟩,
          ⟨some 12, .len (.t 11), none⟩,
          ⟨some 13, .bin .sub (.t 10) (.t 12), none⟩,
          ⟨some 14, .bin .sub (.t 8) (.t 13), none⟩,
          ⟨some 1, .mv (.t 14), none⟩] [0, 1])
      (.seq (.reg [⟨some 15, .mv (.t 1), none⟩,
           ⟨some 16, .bin .gtr (.t 15) (.c (.d (.int .i64 0))), none⟩] [0, 1, 16])
       (.cond (.t 16) (.reg [⟨some 17, .mv (.t 0), none⟩,
            ⟨some 18, .mv (.t 0), none⟩,
            ⟨some 19, .ex .cap [(.t 18)], none⟩,
            ⟨some 20, .sls (.t 17) none (some (.t 19)) none 2, none⟩,
            ⟨some 21, .mv (.t 1), none⟩,
            ⟨some 22, .ex (.appz 49 2 16 [(.d (.int .i64 0)), (.d (.int .i64 0))]) [(.t 20), (.t 21)], none⟩,
            ⟨some 23, .mv (.t 0), none⟩,
            ⟨some 24, .len (.t 23), none⟩,
            ⟨some 25, .trn (.t 22) (.t 24), none⟩,
            ⟨some 0, .mv (.t 25), none⟩] [0])
        .skip)))
     (.seq (.reg [⟨some 26, .mv (.t 0), none⟩,
          ⟨some 4, .mv (.t 26), none⟩] [4])
      .ret))))

def t_slices_Grow_api_LinTerm : List (List Nat × PT) := [([0, 1], .done), ([0, 1, 6], .done), ([], .done), ([0, 1], .done), ([0, 1, 16], .done), ([0], .done), ([4], .done)]

noncomputable def x_slices_Grow_api_LinTerm : Cx := ⟨Tryd.prog, 88, Tryd.f88, 27, [25], [], [.t 4]⟩
theorem g_slices_Grow_api_LinTerm : Good x_slices_Grow_api_LinTerm := ⟨Tryd.func88, by kernel_rfl⟩
theorem rs_slices_Grow_api_LinTerm : x_slices_Grow_api_LinTerm.rs = [.t 4] := rfl
theorem k_slices_Grow_api_LinTerm : compC Tryd.prog 27 [25] [] (Tryd.f88.body.getD .skip) t_slices_Grow_api_LinTerm = some (c_slices_Grow_api_LinTerm, []) := by kernel_rfl
theorem b_slices_Grow_api_LinTerm : Tryd.f88.body = some (Tryd.f88.body.getD .skip) := by kernel_rfl
theorem i_slices_Grow_api_LinTerm {args : List AV} {σ : Heap} {K : AV → Heap → Prop} (hl : args.length ≤ 27) (h : Run x_slices_Grow_api_LinTerm K [.code c_slices_Grow_api_LinTerm] (argF args) E σ) : ACalls Tryd.prog 88 args σ K :=
  acalls_of (cx := x_slices_Grow_api_LinTerm) g_slices_Grow_api_LinTerm b_slices_Grow_api_LinTerm Tryd.ntmps88 hl (compC_rc x_slices_Grow_api_LinTerm _ _ _ _ k_slices_Grow_api_LinTerm) h

/-! ### cmp.isNaN(int) -/
def c_cmp_isNaN_int : C := (.seq (.reg [⟨some 2, .mv (.c (.d (.bool false))), none⟩] [0])
   (.seq (.reg [⟨some 3, .mv (.t 0), none⟩,
        ⟨some 4, .mv (.t 0), none⟩,
        ⟨some 5, .bin .neq (.t 3) (.t 4), none⟩,
        ⟨some 2, .mv (.t 5), none⟩] [2])
    .ret))

def t_cmp_isNaN_int : List (List Nat × PT) := [([0], .done), ([2], .done)]

noncomputable def x_cmp_isNaN_int : Cx := ⟨Tryd.prog, 89, Tryd.f89, 6, [], [], [.t 2]⟩
theorem g_cmp_isNaN_int : Good x_cmp_isNaN_int := ⟨Tryd.func89, by kernel_rfl⟩
theorem rs_cmp_isNaN_int : x_cmp_isNaN_int.rs = [.t 2] := rfl
theorem k_cmp_isNaN_int : compC Tryd.prog 6 [] [] (Tryd.f89.body.getD .skip) t_cmp_isNaN_int = some (c_cmp_isNaN_int, []) := by kernel_rfl
theorem b_cmp_isNaN_int : Tryd.f89.body = some (Tryd.f89.body.getD .skip) := by kernel_rfl
theorem i_cmp_isNaN_int {args : List AV} {σ : Heap} {K : AV → Heap → Prop} (hl : args.length ≤ 6) (h : Run x_cmp_isNaN_int K [.code c_cmp_isNaN_int] (argF args) E σ) : ACalls Tryd.prog 89 args σ K :=
  acalls_of (cx := x_cmp_isNaN_int) g_cmp_isNaN_int b_cmp_isNaN_int Tryd.ntmps89 hl (compC_rc x_cmp_isNaN_int _ _ _ _ k_cmp_isNaN_int) h

end Go.Ab
