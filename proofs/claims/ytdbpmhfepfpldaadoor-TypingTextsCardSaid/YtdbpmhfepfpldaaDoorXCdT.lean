/- The compact codes of the functions of this seat, computed out of the translation. Conditions: none. -/
import Derived.Test.YtdbpmhfepfpldaaDoorXCdF
import Derived.Test.YtdbpmhfepfpldaaDoorProg
import Derived.KernelRfl
set_option linter.unusedSimpArgs false
set_option linter.unusedVariables false
namespace Go.Ab
open Go.Proofs


/-! ### amortcost/amortcostlaw06.TypingTexts -/
def c_law06_TypingTexts : C := (.seq (.reg [⟨some 4, .box (.t 1) false, none⟩,
       ⟨some 6, .mv (.c (.d (.bool false))), none⟩] [0, 2, 4])
   (.seq (.seq (.reg [⟨some 7, .mv (.t 0), none⟩,
         ⟨some 8, .call 11 [(.t 7)], none⟩,
         ⟨some 9, .un .not (.t 8), none⟩,
         ⟨some 10, .mv (.t 9), none⟩,
         ⟨some 11, .ldl (.t 4) (some 3), some (10, false)⟩,
         ⟨some 12, .call 12 [(.t 11)], some (10, false)⟩,
         ⟨some 13, .un .not (.t 12), some (10, false)⟩,
         ⟨some 14, .pick (.t 10) (.c (.d (.bool true))) (.t 13), none⟩] [0, 2, 4, 14])
     (.cond (.t 14) (.seq (.reg [⟨some 6, .mv (.c (.d (.bool true))), none⟩] [6])
       .ret)
      .skip))
    (.seq (.reg [⟨some 15, .mv (.t 0), none⟩,
         ⟨some 16, .ldl (.t 4) (some 3), none⟩,
         ⟨some 17, .mv (.t 2), none⟩,
         ⟨some 19, .mv (.t 0), none⟩,
         ⟨some 20, .ldl (.t 4) (some 3), none⟩,
         ⟨some 21, .mv (.t 2), none⟩,
         ⟨some 18, .call 13 [(.t 15), (.t 16), (.t 17)], none⟩,
         ⟨some 22, .call 14 [(.t 19), (.t 20), (.t 21)], none⟩,
         ⟨some 23, .binb .eql (.t 18) (.t 22), none⟩,
         ⟨some 24, .mv (.t 23), none⟩,
         ⟨some 25, .mv (.t 0), some (24, true)⟩,
         ⟨some 26, .ldl (.t 4) (some 3), some (24, true)⟩,
         ⟨some 28, .mv (.t 0), some (24, true)⟩,
         ⟨some 29, .ldl (.t 4) (some 3), some (24, true)⟩,
         ⟨some 27, .call 15 [(.t 25), (.t 26)], some (24, true)⟩,
         ⟨some 30, .call 16 [(.t 28), (.t 29)], some (24, true)⟩,
         ⟨some 31, .bin .eql (.t 27) (.t 30), some (24, true)⟩,
         ⟨some 32, .pick (.t 24) (.t 31) (.c (.d (.bool false))), none⟩,
         ⟨some 33, .mv (.t 32), none⟩,
         ⟨some 34, .bld [(.d (.int .i64 0)), (.d (.int .i64 0)), .nils] [(0, 1, (.c (.d (.int .i64 1))))], some (33, true)⟩,
         ⟨some 35, .call 15 [(.c .nils), (.t 34)], some (33, true)⟩,
         ⟨some 36, .bin .eql (.t 35) (.c (.d (.str [105, 110, 116]))), some (33, true)⟩,
         ⟨some 37, .pick (.t 33) (.t 36) (.c (.d (.bool false))), none⟩,
         ⟨some 6, .mv (.t 37), none⟩] [6])
     .ret)))

def t_law06_TypingTexts : List (List Nat × PT) := [([0, 2, 4], .done), ([0, 2, 4, 14], .done), ([6], .done), ([6], (.one 0 (.one 1 (.one 2 (.one 4 (.one 5 (.one 6 (.one 3 (.one 7 (.one 8 (.one 9 (.one 10 (.one 11 (.one 13 (.one 14 (.one 12 (.one 15 (.one 16 (.one 17 (.one 18 (.one 19 (.one 20 (.one 21 (.one 22 (.one 23 .done)))))))))))))))))))))))))]

noncomputable def x_law06_TypingTexts : Cx := ⟨Tryd.prog, 3, Tryd.f3, 38, [300011, 300016, 300020, 300026, 300029], [], [.t 6]⟩
theorem g_law06_TypingTexts : Good x_law06_TypingTexts := ⟨Tryd.func3, by kernel_rfl⟩
theorem rs_law06_TypingTexts : x_law06_TypingTexts.rs = [.t 6] := rfl
theorem k_law06_TypingTexts : compC Tryd.prog 38 [300011, 300016, 300020, 300026, 300029] [] (Tryd.f3.body.getD .skip) t_law06_TypingTexts = some (c_law06_TypingTexts, []) := by kernel_rfl
theorem b_law06_TypingTexts : Tryd.f3.body = some (Tryd.f3.body.getD .skip) := by kernel_rfl
theorem i_law06_TypingTexts {args : List AV} {σ : Heap} {K : AV → Heap → Prop} (hl : args.length ≤ 38) (h : Run x_law06_TypingTexts K [.code c_law06_TypingTexts] (argF args) E σ) : ACalls Tryd.prog 3 args σ K :=
  acalls_of (cx := x_law06_TypingTexts) g_law06_TypingTexts b_law06_TypingTexts Tryd.ntmps3 hl (compC_rc x_law06_TypingTexts _ _ _ _ k_law06_TypingTexts) h

/-! ### amortcost/amortcostkeep.Data -/
/- slots of c_keep_Data_L0 : [7, 13, 14, 15, 30, 31, 32, 47, 48, 49] -/
def c_keep_Data_L0 : C := (.seq (.reg [⟨some 50, .bin .lss (.t 49) (.t 48), none⟩] [7, 13, 14, 15, 30, 31, 32, 47, 48, 49, 50])
   (.seq (.cond (.t 50) .skip
     (.exit 4))
    (.seq (.block 5 (.seq (.reg [⟨some 51, .ix (.t 47) (.t 49) 3, none⟩,
           ⟨some 52, .ld (.t 51) (some 3), none⟩,
           ⟨some 9, .al [(.d (.int .i64 0)), (.d (.int .i64 0)), .nils] false, none⟩,
           ⟨none, .st (.t 9) (.t 52) 3, none⟩] [7, 9, 13, 14, 15, 30, 31, 32, 47, 48, 49])
       (.seq (.reg [⟨some 53, .ldl (.t 9) (some 3), none⟩,
            ⟨some 54, .call 43 [(.t 53), (.t 7)], none⟩,
            ⟨some 55, .un .not (.t 54), none⟩] [7, 13, 14, 15, 30, 31, 32, 47, 48, 49, 55])
        (.cond (.t 55) (.seq (.reg [⟨some 2, .mv (.c (.d (.bool false))), none⟩] [2])
          .ret)
         .skip))))
     (.reg [⟨some 56, .bin .add (.t 49) (.c (.d (.int .i64 1))), none⟩,
         ⟨some 49, .mv (.t 56), none⟩] [7, 13, 14, 15, 30, 31, 32, 47, 48, 49]))))

/- slots of c_keep_Data_L1 : [13, 14, 15, 30, 31, 32] -/
def c_keep_Data_L1 : C := (.seq (.reg [⟨some 33, .bin .lss (.t 32) (.t 31), none⟩] [13, 14, 15, 30, 31, 32, 33])
   (.seq (.cond (.t 33) .skip
     (.exit 2))
    (.seq (.block 3 (.seq (.reg [⟨some 34, .ix (.t 30) (.t 32) 2, none⟩,
           ⟨some 35, .ld (.t 34) (some 2), none⟩,
           ⟨some 6, .al [(.d (.str [])), .nils] false, none⟩,
           ⟨none, .st (.t 6) (.t 35) 2, none⟩] [6, 13, 14, 15, 30, 31, 32])
       (.seq (.seq (.reg [⟨some 36, .fld (.t 6) 0, none⟩,
             ⟨some 37, .ldl (.t 36) none, none⟩,
             ⟨some 38, .slen (.t 37), none⟩,
             ⟨some 39, .bin .gtr (.t 38) (.c (.d (.int .i64 40))), none⟩,
             ⟨some 40, .mv (.t 39), none⟩,
             ⟨some 41, .fld (.t 6) 1, some (40, false)⟩,
             ⟨some 42, .ldl (.t 41) none, some (40, false)⟩,
             ⟨some 43, .len (.t 42), some (40, false)⟩,
             ⟨some 44, .bin .gtr (.t 43) (.c (.d (.int .i64 8))), some (40, false)⟩,
             ⟨some 45, .pick (.t 40) (.c (.d (.bool true))) (.t 44), none⟩] [6, 13, 14, 15, 30, 31, 32, 45])
         (.cond (.t 45) (.seq (.reg [⟨some 2, .mv (.c (.d (.bool false))), none⟩] [2])
           .ret)
          .skip))
        (.seq (.reg [⟨some 7, .ex (.alt 3 [(.d (.int .i64 0))]) [], none⟩,
             ⟨none, .st (.t 7) (.c (.d (.int .i64 20))) 1, none⟩] [6, 7, 13, 14, 15, 30, 31, 32])
         (.seq (.reg [⟨some 46, .fld (.t 6) 1, none⟩,
              ⟨some 47, .ldl (.t 46) none, none⟩,
              ⟨some 48, .len (.t 47), none⟩,
              ⟨some 49, .mv (.c (.d (.int .i64 0))), none⟩] [7, 13, 14, 15, 30, 31, 32, 47, 48, 49])
          (.block 4 (.loop c_keep_Data_L0)))))))
     (.reg [⟨some 57, .bin .add (.t 32) (.c (.d (.int .i64 1))), none⟩,
         ⟨some 32, .mv (.t 57), none⟩] [13, 14, 15, 30, 31, 32]))))

/- slots of c_keep_Data_L2 : [13, 14, 15] -/
def c_keep_Data_L2 : C := (.seq (.reg [⟨some 16, .bin .lss (.t 15) (.t 14), none⟩] [13, 14, 15, 16])
   (.seq (.cond (.t 16) .skip
     (.exit 0))
    (.seq (.block 1 (.seq (.reg [⟨some 17, .ix (.t 13) (.t 15) 3, none⟩,
           ⟨some 18, .ld (.t 17) (some 3), none⟩,
           ⟨some 4, .al [(.d (.str [])), (.d (.int .i64 0)), .nils] false, none⟩,
           ⟨none, .st (.t 4) (.t 18) 3, none⟩] [4, 13, 14, 15])
       (.seq (.seq (.reg [⟨some 19, .fld (.t 4) 0, none⟩,
             ⟨some 20, .ldl (.t 19) none, none⟩,
             ⟨some 21, .slen (.t 20), none⟩,
             ⟨some 22, .bin .gtr (.t 21) (.c (.d (.int .i64 40))), none⟩,
             ⟨some 23, .mv (.t 22), none⟩,
             ⟨some 24, .fld (.t 4) 2, some (23, false)⟩,
             ⟨some 25, .ldl (.t 24) none, some (23, false)⟩,
             ⟨some 26, .len (.t 25), some (23, false)⟩,
             ⟨some 27, .bin .gtr (.t 26) (.c (.d (.int .i64 10))), some (23, false)⟩,
             ⟨some 28, .pick (.t 23) (.c (.d (.bool true))) (.t 27), none⟩] [4, 13, 14, 15, 28])
         (.cond (.t 28) (.seq (.reg [⟨some 2, .mv (.c (.d (.bool false))), none⟩] [2])
           .ret)
          .skip))
        (.seq (.reg [⟨some 29, .fld (.t 4) 2, none⟩,
             ⟨some 30, .ldl (.t 29) none, none⟩,
             ⟨some 31, .len (.t 30), none⟩,
             ⟨some 32, .mv (.c (.d (.int .i64 0))), none⟩] [13, 14, 15, 30, 31, 32])
         (.block 2 (.loop c_keep_Data_L1))))))
     (.reg [⟨some 58, .bin .add (.t 15) (.c (.d (.int .i64 1))), none⟩,
         ⟨some 15, .mv (.t 58), none⟩] [13, 14, 15]))))

def c_keep_Data : C := (.seq (.reg [⟨some 2, .mv (.c (.d (.bool false))), none⟩] [0])
   (.seq (.seq (.reg [⟨some 10, .mv (.t 0), none⟩,
         ⟨some 11, .len (.t 10), none⟩,
         ⟨some 12, .bin .gtr (.t 11) (.c (.d (.int .i64 14))), none⟩] [0, 12])
     (.cond (.t 12) (.seq (.reg [⟨some 2, .mv (.c (.d (.bool false))), none⟩] [2])
       .ret)
      .skip))
    (.seq (.seq (.reg [⟨some 13, .mv (.t 0), none⟩,
          ⟨some 14, .len (.t 13), none⟩,
          ⟨some 15, .mv (.c (.d (.int .i64 0))), none⟩] [13, 14, 15])
      (.block 0 (.loop c_keep_Data_L2)))
     (.seq (.reg [⟨some 2, .mv (.c (.d (.bool true))), none⟩] [2])
      .ret))))

def t_keep_Data : List (List Nat × PT) := [([0], .done), ([0, 12], .done), ([2], .done), ([13, 14, 15], .done), ([13, 14, 15, 16], .done), ([4, 13, 14, 15], .done), ([4, 13, 14, 15, 28], .done), ([2], .done), ([13, 14, 15, 30, 31, 32], .done), ([13, 14, 15, 30, 31, 32, 33], .done), ([6, 13, 14, 15, 30, 31, 32], .done), ([6, 13, 14, 15, 30, 31, 32, 45], .done), ([2], .done), ([6, 7, 13, 14, 15, 30, 31, 32], .done), ([7, 13, 14, 15, 30, 31, 32, 47, 48, 49], .done), ([7, 13, 14, 15, 30, 31, 32, 47, 48, 49, 50], .done), ([7, 9, 13, 14, 15, 30, 31, 32, 47, 48, 49], .done), ([7, 13, 14, 15, 30, 31, 32, 47, 48, 49, 55], .done), ([2], .done), ([7, 13, 14, 15, 30, 31, 32, 47, 48, 49], .done), ([13, 14, 15, 30, 31, 32], .done), ([13, 14, 15], .done), ([2], .done)]

noncomputable def x_keep_Data : Cx := ⟨Tryd.prog, 11, Tryd.f11, 59, [7, 300020, 300025, 300030, 300037, 300042, 300047, 300053], [], [.t 2]⟩
theorem g_keep_Data : Good x_keep_Data := ⟨Tryd.func11, by kernel_rfl⟩
theorem rs_keep_Data : x_keep_Data.rs = [.t 2] := rfl
theorem k_keep_Data : compC Tryd.prog 59 [7, 300020, 300025, 300030, 300037, 300042, 300047, 300053] [] (Tryd.f11.body.getD .skip) t_keep_Data = some (c_keep_Data, []) := by kernel_rfl
theorem b_keep_Data : Tryd.f11.body = some (Tryd.f11.body.getD .skip) := by kernel_rfl
theorem i_keep_Data {args : List AV} {σ : Heap} {K : AV → Heap → Prop} (hl : args.length ≤ 59) (h : Run x_keep_Data K [.code c_keep_Data] (argF args) E σ) : ACalls Tryd.prog 11 args σ K :=
  acalls_of (cx := x_keep_Data) g_keep_Data b_keep_Data Tryd.ntmps11 hl (compC_rc x_keep_Data _ _ _ _ k_keep_Data) h

/-! ### amortcost/amortcostkeep.Type -/
def c_keep_Type : C := (.seq (.reg [⟨some 1, .box (.t 0) false, none⟩,
       ⟨some 2, .mv (.c (.d (.bool false))), none⟩] [1])
   (.seq (.reg [⟨some 3, .ex (.alt 3 [(.d (.int .i64 0))]) [], none⟩,
        ⟨none, .st (.t 3) (.c (.d (.int .i64 250))) 1, none⟩] [1, 3])
    (.seq (.reg [⟨some 4, .ldl (.t 1) (some 3), none⟩,
         ⟨some 5, .call 43 [(.t 4), (.t 3)], none⟩,
         ⟨some 2, .mv (.t 5), none⟩] [2])
     .ret)))

def t_keep_Type : List (List Nat × PT) := [([1], .done), ([1, 3], .done), ([2], .done)]

noncomputable def x_keep_Type : Cx := ⟨Tryd.prog, 12, Tryd.f12, 6, [3, 300004], [], [.t 2]⟩
theorem g_keep_Type : Good x_keep_Type := ⟨Tryd.func12, by kernel_rfl⟩
theorem rs_keep_Type : x_keep_Type.rs = [.t 2] := rfl
theorem k_keep_Type : compC Tryd.prog 6 [3, 300004] [] (Tryd.f12.body.getD .skip) t_keep_Type = some (c_keep_Type, []) := by kernel_rfl
theorem b_keep_Type : Tryd.f12.body = some (Tryd.f12.body.getD .skip) := by kernel_rfl
theorem i_keep_Type {args : List AV} {σ : Heap} {K : AV → Heap → Prop} (hl : args.length ≤ 6) (h : Run x_keep_Type K [.code c_keep_Type] (argF args) E σ) : ACalls Tryd.prog 12 args σ K :=
  acalls_of (cx := x_keep_Type) g_keep_Type b_keep_Type Tryd.ntmps12 hl (compC_rc x_keep_Type _ _ _ _ k_keep_Type) h

/-! ### amortcost/typing.Valid -/
def c_typing_Valid : C := (.seq (.reg [⟨some 4, .box (.t 1) false, none⟩,
       ⟨some 6, .mv (.c (.d (.bool false))), none⟩] [0, 2, 4])
   (.seq (.reg [⟨some 8, .mv (.t 0), none⟩,
        ⟨some 9, .mv (.t 2), none⟩,
        ⟨some 10, .bld [.nils, (.d (.int .i64 0)), (.d (.int .i64 0))] [(0, 1, (.t 8)), (1, 1, (.t 9)), (2, 1, (.c (.d (.int .i64 200))))], none⟩,
        ⟨some 11, .box (.t 10) true, none⟩,
        ⟨some 7, .mv (.t 11), none⟩] [4, 7])
    (.seq (.reg [⟨some 12, .mv (.t 7), none⟩,
         ⟨some 13, .ldl (.t 4) (some 3), none⟩,
         ⟨some 14, .call 44 [(.t 12), (.t 13)], none⟩,
         ⟨some 6, .mv (.t 14), none⟩] [6])
     .ret)))

def t_typing_Valid : List (List Nat × PT) := [([0, 2, 4], .done), ([4, 7], .done), ([6], .done)]

noncomputable def x_typing_Valid : Cx := ⟨Tryd.prog, 13, Tryd.f13, 15, [11, 300013], [], [.t 6]⟩
theorem g_typing_Valid : Good x_typing_Valid := ⟨Tryd.func13, by kernel_rfl⟩
theorem rs_typing_Valid : x_typing_Valid.rs = [.t 6] := rfl
theorem k_typing_Valid : compC Tryd.prog 15 [11, 300013] [] (Tryd.f13.body.getD .skip) t_typing_Valid = some (c_typing_Valid, []) := by kernel_rfl
theorem b_typing_Valid : Tryd.f13.body = some (Tryd.f13.body.getD .skip) := by kernel_rfl
theorem i_typing_Valid {args : List AV} {σ : Heap} {K : AV → Heap → Prop} (hl : args.length ≤ 15) (h : Run x_typing_Valid K [.code c_typing_Valid] (argF args) E σ) : ACalls Tryd.prog 13 args σ K :=
  acalls_of (cx := x_typing_Valid) g_typing_Valid b_typing_Valid Tryd.ntmps13 hl (compC_rc x_typing_Valid _ _ _ _ k_typing_Valid) h

/-! ### amortcost/amortcostref6.Valid -/
def c_r6_Valid : C := (.seq (.reg [⟨some 4, .box (.t 1) false, none⟩,
       ⟨some 6, .mv (.c (.d (.bool false))), none⟩] [0, 2, 4])
   (.seq (.reg [⟨some 7, .ldl (.t 4) (some 3), none⟩,
        ⟨some 8, .call 45 [(.t 7)], none⟩,
        ⟨some 9, .bin .leq (.t 8) (.c (.d (.int .i64 200))), none⟩,
        ⟨some 10, .mv (.t 9), none⟩,
        ⟨some 11, .mv (.t 0), some (10, true)⟩,
        ⟨some 12, .ldl (.t 4) (some 3), some (10, true)⟩,
        ⟨some 13, .mv (.t 2), some (10, true)⟩,
        ⟨some 14, .call 46 [(.t 11), (.t 12), (.t 13)], some (10, true)⟩,
        ⟨some 15, .pick (.t 10) (.t 14) (.c (.d (.bool false))), none⟩,
        ⟨some 6, .mv (.t 15), none⟩] [6])
    .ret))

def t_r6_Valid : List (List Nat × PT) := [([0, 2, 4], .done), ([6], .done)]

noncomputable def x_r6_Valid : Cx := ⟨Tryd.prog, 14, Tryd.f14, 16, [300007, 300012], [], [.t 6]⟩
theorem g_r6_Valid : Good x_r6_Valid := ⟨Tryd.func14, by kernel_rfl⟩
theorem rs_r6_Valid : x_r6_Valid.rs = [.t 6] := rfl
theorem k_r6_Valid : compC Tryd.prog 16 [300007, 300012] [] (Tryd.f14.body.getD .skip) t_r6_Valid = some (c_r6_Valid, []) := by kernel_rfl
theorem b_r6_Valid : Tryd.f14.body = some (Tryd.f14.body.getD .skip) := by kernel_rfl
theorem i_r6_Valid {args : List AV} {σ : Heap} {K : AV → Heap → Prop} (hl : args.length ≤ 16) (h : Run x_r6_Valid K [.code c_r6_Valid] (argF args) E σ) : ACalls Tryd.prog 14 args σ K :=
  acalls_of (cx := x_r6_Valid) g_r6_Valid b_r6_Valid Tryd.ntmps14 hl (compC_rc x_r6_Valid _ _ _ _ k_r6_Valid) h

/-! ### amortcost/typing.Format -/
def c_typing_Format : C := (.seq (.reg [⟨some 3, .box (.t 1) false, none⟩,
       ⟨some 4, .mv (.c (.d (.str []))), none⟩] [0, 3])
   (.seq (.seq (.reg [⟨some 5, .mv (.t 0), none⟩,
         ⟨some 6, .ldl (.t 3) (some 3), none⟩,
         ⟨some 7, .call 13 [(.t 5), (.t 6), (.c (.d (.int .i64 101)))], none⟩,
         ⟨some 8, .un .not (.t 7), none⟩] [0, 3, 8])
     (.cond (.t 8) (.seq (.reg [⟨some 4, .mv (.c (.d (.str []))), none⟩] [4])
       .ret)
      .skip))
    (.seq (.reg [⟨some 9, .mv (.t 0), none⟩,
         ⟨some 10, .ldl (.t 3) (some 3), none⟩,
         ⟨some 11, .call 47 [(.t 9), (.t 10)], none⟩,
         ⟨some 4, .mv (.t 11), none⟩] [4])
     .ret)))

def t_typing_Format : List (List Nat × PT) := [([0, 3], .done), ([0, 3, 8], .done), ([4], .done), ([4], .done)]

noncomputable def x_typing_Format : Cx := ⟨Tryd.prog, 15, Tryd.f15, 12, [300006, 300010], [], [.t 4]⟩
theorem g_typing_Format : Good x_typing_Format := ⟨Tryd.func15, by kernel_rfl⟩
theorem rs_typing_Format : x_typing_Format.rs = [.t 4] := rfl
theorem k_typing_Format : compC Tryd.prog 12 [300006, 300010] [] (Tryd.f15.body.getD .skip) t_typing_Format = some (c_typing_Format, []) := by kernel_rfl
theorem b_typing_Format : Tryd.f15.body = some (Tryd.f15.body.getD .skip) := by kernel_rfl
theorem i_typing_Format {args : List AV} {σ : Heap} {K : AV → Heap → Prop} (hl : args.length ≤ 12) (h : Run x_typing_Format K [.code c_typing_Format] (argF args) E σ) : ACalls Tryd.prog 15 args σ K :=
  acalls_of (cx := x_typing_Format) g_typing_Format b_typing_Format Tryd.ntmps15 hl (compC_rc x_typing_Format _ _ _ _ k_typing_Format) h

/-! ### amortcost/amortcostref6.Format -/
def c_r6_Format : C := (.seq (.reg [⟨some 3, .box (.t 1) false, none⟩,
       ⟨some 4, .mv (.c (.d (.str []))), none⟩] [0, 3])
   (.seq (.seq (.reg [⟨some 5, .mv (.t 0), none⟩,
         ⟨some 6, .ldl (.t 3) (some 3), none⟩,
         ⟨some 7, .call 14 [(.t 5), (.t 6), (.c (.d (.int .i64 101)))], none⟩,
         ⟨some 8, .un .not (.t 7), none⟩] [0, 3, 8])
     (.cond (.t 8) (.seq (.reg [⟨some 4, .mv (.c (.d (.str []))), none⟩] [4])
       .ret)
      .skip))
    (.seq (.reg [⟨some 9, .mv (.t 0), none⟩,
         ⟨some 10, .ldl (.t 3) (some 3), none⟩,
         ⟨some 11, .call 48 [(.t 9), (.t 10)], none⟩,
         ⟨some 4, .mv (.t 11), none⟩] [4])
     .ret)))

def t_r6_Format : List (List Nat × PT) := [([0, 3], .done), ([0, 3, 8], .done), ([4], .done), ([4], .done)]

noncomputable def x_r6_Format : Cx := ⟨Tryd.prog, 16, Tryd.f16, 12, [300006, 300010], [], [.t 4]⟩
theorem g_r6_Format : Good x_r6_Format := ⟨Tryd.func16, by kernel_rfl⟩
theorem rs_r6_Format : x_r6_Format.rs = [.t 4] := rfl
theorem k_r6_Format : compC Tryd.prog 12 [300006, 300010] [] (Tryd.f16.body.getD .skip) t_r6_Format = some (c_r6_Format, []) := by kernel_rfl
theorem b_r6_Format : Tryd.f16.body = some (Tryd.f16.body.getD .skip) := by kernel_rfl
theorem i_r6_Format {args : List AV} {σ : Heap} {K : AV → Heap → Prop} (hl : args.length ≤ 12) (h : Run x_r6_Format K [.code c_r6_Format] (argF args) E σ) : ACalls Tryd.prog 16 args σ K :=
  acalls_of (cx := x_r6_Format) g_r6_Format b_r6_Format Tryd.ntmps16 hl (compC_rc x_r6_Format _ _ _ _ k_r6_Format) h

/-! ### amortcost/amortcostkeep.typ -/
/- slots of c_keep_typ_L0 : [1, 2, 5] -/
def c_keep_typ_L0 : C := (.seq (.seq (.reg [⟨some 15, .mv (.t 5), none⟩,
        ⟨some 16, .fld (.t 2) 2, none⟩,
        ⟨some 17, .ldl (.t 16) none, none⟩,
        ⟨some 18, .len (.t 17), none⟩,
        ⟨some 19, .bin .lss (.t 15) (.t 18), none⟩] [1, 2, 5, 19])
    (.cond (.t 19) .skip
     (.exit 0)))
   (.seq (.block 1 (.seq (.reg [⟨some 22, .fld (.t 2) 2, none⟩,
          ⟨some 23, .ldl (.t 22) none, none⟩,
          ⟨some 24, .mv (.t 5), none⟩,
          ⟨some 25, .ix (.t 23) (.t 24) 3, none⟩,
          ⟨some 26, .ld (.t 25) (some 3), none⟩,
          ⟨some 27, .mv (.t 1), none⟩,
          ⟨some 28, .call 43 [(.t 26), (.t 27)], none⟩,
          ⟨some 29, .un .not (.t 28), none⟩] [1, 2, 5, 29])
      (.cond (.t 29) (.seq (.reg [⟨some 4, .mv (.c (.d (.bool false))), none⟩] [4])
        .ret)
       .skip)))
    (.reg [⟨some 20, .mv (.t 5), none⟩,
        ⟨some 21, .bin .add (.t 20) (.c (.d (.int .i64 1))), none⟩,
        ⟨some 5, .mv (.t 21), none⟩] [1, 2, 5])))

def c_keep_typ : C := (.seq (.reg [⟨some 2, .box (.t 0) false, none⟩,
       ⟨some 4, .mv (.c (.d (.bool false))), none⟩] [1, 2])
   (.seq (.reg [⟨some 6, .mv (.t 1), none⟩,
        ⟨some 7, .nck (.t 6), none⟩,
        ⟨some 8, .ld (.t 7) none, none⟩,
        ⟨some 9, .bin .sub (.t 8) (.c (.d (.int .i64 1))), none⟩,
        ⟨some 10, .nck (.t 6), none⟩,
        ⟨none, .st (.t 10) (.t 9) 1, none⟩] [1, 2])
    (.seq (.seq (.reg [⟨some 11, .mv (.t 1), none⟩,
          ⟨some 12, .nck (.t 11), none⟩,
          ⟨some 13, .ld (.t 12) none, none⟩,
          ⟨some 14, .bin .lss (.t 13) (.c (.d (.int .i64 0))), none⟩] [1, 2, 14])
      (.cond (.t 14) (.seq (.reg [⟨some 4, .mv (.c (.d (.bool false))), none⟩] [4])
        .ret)
       .skip))
     (.seq (.seq (.reg [⟨some 5, .mv (.c (.d (.int .i64 0))), none⟩] [1, 2, 5])
       (.block 0 (.loop c_keep_typ_L0)))
      (.seq (.reg [⟨some 4, .mv (.c (.d (.bool true))), none⟩] [4])
       .ret)))))

def t_keep_typ : List (List Nat × PT) := [([1, 2], .done), ([1, 2], .done), ([1, 2, 14], .done), ([4], .done), ([1, 2, 5], .done), ([1, 2, 5, 19], .done), ([1, 2, 5, 29], .done), ([4], .done), ([1, 2, 5], .done), ([4], .done)]

noncomputable def x_keep_typ : Cx := ⟨Tryd.prog, 43, Tryd.f43, 30, [300017, 300023], [], [.t 4]⟩
theorem g_keep_typ : Good x_keep_typ := ⟨Tryd.func43, by kernel_rfl⟩
theorem rs_keep_typ : x_keep_typ.rs = [.t 4] := rfl
theorem k_keep_typ : compC Tryd.prog 30 [300017, 300023] [] (Tryd.f43.body.getD .skip) t_keep_typ = some (c_keep_typ, []) := by kernel_rfl
theorem b_keep_typ : Tryd.f43.body = some (Tryd.f43.body.getD .skip) := by kernel_rfl
theorem i_keep_typ {args : List AV} {σ : Heap} {K : AV → Heap → Prop} (hl : args.length ≤ 30) (h : Run x_keep_typ K [.code c_keep_typ] (argF args) E σ) : ACalls Tryd.prog 43 args σ K :=
  acalls_of (cx := x_keep_typ) g_keep_typ b_keep_typ Tryd.ntmps43 hl (compC_rc x_keep_typ _ _ _ _ k_keep_typ) h

/-! ### (*amortcost/typing.validator).valid -/
def c_typing_validator_valid : C := (.seq (.reg [⟨some 2, .box (.t 0) true, none⟩,
       ⟨some 3, .box (.t 1) false, none⟩,
       ⟨some 4, .mv (.c (.d (.bool false))), none⟩] [2, 3])
   (.seq (.reg [⟨some 7, .ld (.t 2) none, none⟩,
        ⟨some 8, .nck (.t 7), none⟩,
        ⟨some 9, .fld (.t 8) 2, none⟩,
        ⟨some 10, .ld (.t 9) none, none⟩,
        ⟨some 11, .bin .sub (.t 10) (.c (.d (.int .i64 1))), none⟩,
        ⟨some 12, .nck (.t 7), none⟩,
        ⟨some 13, .fld (.t 12) 2, none⟩,
        ⟨none, .st (.t 13) (.t 11) 1, none⟩] [2, 3])
    (.seq (.seq (.reg [⟨some 14, .ld (.t 2) none, none⟩,
          ⟨some 15, .nck (.t 14), none⟩,
          ⟨some 16, .fld (.t 15) 2, none⟩,
          ⟨some 17, .ld (.t 16) none, none⟩,
          ⟨some 18, .bin .lss (.t 17) (.c (.d (.int .i64 0))), none⟩] [2, 3, 18])
      (.cond (.t 18) (.seq (.reg [⟨some 4, .mv (.c (.d (.bool false))), none⟩] [4])
        .ret)
       .skip))
     (.seq (.reg [⟨some 5, .mv (.c (.d (.int .i64 0))), none⟩,
          ⟨some 6, .mv (.c (.d (.int .i64 0))), none⟩] [2, 3, 5, 6])
      (.seq (.seq (.reg [⟨some 19, .fld (.t 3) 0, none⟩,
            ⟨some 20, .ldl (.t 19) none, none⟩] [2, 3, 5, 6, 20])
        (.block 0 (.seq (.seq (.reg [⟨some 22, .bin .eql (.t 20) (.c (.d (.int .i64 1))), none⟩,
               ⟨some 21, .mv (.t 22), none⟩] [2, 3, 5, 6, 20, 21])
           (.cond (.t 21) .skip
            (.seq (.reg [⟨some 23, .bin .eql (.t 20) (.c (.d (.int .i64 2))), none⟩,
                 ⟨some 21, .mv (.t 23), none⟩] [2, 3, 5, 6, 20, 21])
             (.cond (.t 21) .skip
              (.reg [⟨some 24, .bin .eql (.t 20) (.c (.d (.int .i64 3))), none⟩,
                  ⟨some 21, .mv (.t 24), none⟩] [2, 3, 5, 6, 20, 21])))))
          (.cond (.t 21) .skip
           (.seq (.reg [⟨some 26, .bin .eql (.t 20) (.c (.d (.int .i64 4))), none⟩,
                ⟨some 25, .mv (.t 26), none⟩] [2, 3, 5, 6, 20, 25])
            (.cond (.t 25) (.seq (.reg [⟨some 27, .fld (.t 3) 1, none⟩,
                  ⟨some 28, .ldl (.t 27) none, none⟩,
                  ⟨some 29, .bin .lss (.t 28) (.c (.d (.int .i64 0))), none⟩,
                  ⟨some 30, .mv (.t 29), none⟩,
                  ⟨some 31, .fld (.t 3) 1, some (30, false)⟩,
                  ⟨some 32, .ldl (.t 31) none, some (30, false)⟩,
                  ⟨some 33, .ld (.t 2) none, some (30, false)⟩,
                  ⟨some 34, .nck (.t 33), some (30, false)⟩,
                  ⟨some 35, .fld (.t 34) 1, some (30, false)⟩,
                  ⟨some 36, .ld (.t 35) none, some (30, false)⟩,
                  ⟨some 37, .bin .geq (.t 32) (.t 36), some (30, false)⟩,
                  ⟨some 38, .pick (.t 30) (.c (.d (.bool true))) (.t 37), none⟩] [2, 3, 5, 6, 38])
              (.cond (.t 38) (.seq (.reg [⟨some 4, .mv (.c (.d (.bool false))), none⟩] [4])
                .ret)
               .skip))
             (.seq (.reg [⟨some 40, .bin .eql (.t 20) (.c (.d (.int .i64 5))), none⟩,
                  ⟨some 39, .mv (.t 40), none⟩] [2, 3, 20, 39])
              (.cond (.t 39) (.seq (.seq (.reg [⟨some 41, .fld (.t 3) 1, none⟩,
                     ⟨some 42, .ldl (.t 41) none, none⟩,
                     ⟨some 43, .bin .lss (.t 42) (.c (.d (.int .i64 0))), none⟩,
                     ⟨some 44, .mv (.t 43), none⟩,
                     ⟨some 45, .fld (.t 3) 1, some (44, false)⟩,
                     ⟨some 46, .ldl (.t 45) none, some (44, false)⟩,
                     ⟨some 47, .ld (.t 2) none, some (44, false)⟩,
                     ⟨some 48, .nck (.t 47), some (44, false)⟩,
                     ⟨some 49, .fld (.t 48) 0, some (44, false)⟩,
                     ⟨some 50, .ld (.t 49) none, some (44, false)⟩,
                     ⟨some 51, .len (.t 50), some (44, false)⟩,
                     ⟨some 52, .bin .geq (.t 46) (.t 51), some (44, false)⟩,
                     ⟨some 53, .pick (.t 44) (.c (.d (.bool true))) (.t 52), none⟩] [2, 3, 53])
                 (.cond (.t 53) (.seq (.reg [⟨some 4, .mv (.c (.d (.bool false))), none⟩] [4])
                   .ret)
                  .skip))
                (.reg [⟨some 54, .ld (.t 2) none, none⟩,
                    ⟨some 55, .nck (.t 54), none⟩,
                    ⟨some 56, .fld (.t 55) 0, none⟩,
                    ⟨some 57, .ld (.t 56) none, none⟩,
                    ⟨some 58, .fld (.t 3) 1, none⟩,
                    ⟨some 59, .ldl (.t 58) none, none⟩,
                    ⟨some 60, .ix (.t 57) (.t 59) 3, none⟩,
                    ⟨some 61, .fld (.t 60) 1, none⟩,
                    ⟨some 62, .ld (.t 61) none, none⟩,
                    ⟨some 63, .ld (.t 2) none, none⟩,
                    ⟨some 64, .nck (.t 63), none⟩,
                    ⟨some 65, .fld (.t 64) 0, none⟩,
                    ⟨some 66, .ld (.t 65) none, none⟩,
                    ⟨some 67, .fld (.t 3) 1, none⟩,
                    ⟨some 68, .ldl (.t 67) none, none⟩,
                    ⟨some 69, .ix (.t 66) (.t 68) 3, none⟩,
                    ⟨some 70, .fld (.t 69) 1, none⟩,
                    ⟨some 71, .ld (.t 70) none, none⟩,
                    ⟨some 5, .mv (.t 62), none⟩,
                    ⟨some 6, .mv (.t 71), none⟩] [2, 3, 5, 6]))
               (.seq (.reg [⟨some 73, .bin .eql (.t 20) (.c (.d (.int .i64 6))), none⟩,
                    ⟨some 72, .mv (.t 73), none⟩] [2, 3, 20, 72])
                (.cond (.t 72) (.reg [⟨some 5, .mv (.c (.d (.int .i64 2))), none⟩,
                     ⟨some 6, .mv (.c (.d (.int .i64 6))), none⟩] [2, 3, 5, 6])
                 (.seq (.seq (.reg [⟨some 75, .bin .eql (.t 20) (.c (.d (.int .i64 7))), none⟩,
                       ⟨some 74, .mv (.t 75), none⟩] [2, 3, 20, 74])
                   (.cond (.t 74) .skip
                    (.reg [⟨some 76, .bin .eql (.t 20) (.c (.d (.int .i64 8))), none⟩,
                        ⟨some 74, .mv (.t 76), none⟩] [2, 3, 20, 74])))
                  (.cond (.t 74) (.reg [⟨some 5, .mv (.c (.d (.int .i64 1))), none⟩,
                       ⟨some 6, .mv (.c (.d (.int .i64 1))), none⟩] [2, 3, 5, 6])
                   (.seq (.reg [⟨some 78, .bin .eql (.t 20) (.c (.d (.int .i64 9))), none⟩,
                        ⟨some 77, .mv (.t 78), none⟩] [2, 3, 77])
                    (.cond (.t 77) (.reg [⟨some 5, .mv (.c (.d (.int .i64 1))), none⟩,
                         ⟨some 6, .mv (.c (.d (.int .i64 7))), none⟩] [2, 3, 5, 6])
                     (.seq (.reg [⟨some 4, .mv (.c (.d (.bool false))), none⟩] [4])
                      .ret)))))))))))))))
       (.seq (.seq (.reg [⟨some 79, .fld (.t 3) 0, none⟩,
             ⟨some 80, .ldl (.t 79) none, none⟩,
             ⟨some 81, .bin .neq (.t 80) (.c (.d (.int .i64 4))), none⟩,
             ⟨some 82, .mv (.t 81), none⟩,
             ⟨some 83, .fld (.t 3) 0, some (82, true)⟩,
             ⟨some 84, .ldl (.t 83) none, some (82, true)⟩,
             ⟨some 85, .bin .neq (.t 84) (.c (.d (.int .i64 5))), some (82, true)⟩,
             ⟨some 86, .pick (.t 82) (.t 85) (.c (.d (.bool false))), none⟩,
             ⟨some 87, .mv (.t 86), none⟩,
             ⟨some 88, .fld (.t 3) 1, some (87, true)⟩,
             ⟨some 89, .ldl (.t 88) none, some (87, true)⟩,
             ⟨some 90, .bin .neq (.t 89) (.c (.d (.int .i64 0))), some (87, true)⟩,
             ⟨some 91, .pick (.t 87) (.t 90) (.c (.d (.bool false))), none⟩] [2, 3, 5, 6, 91])
         (.cond (.t 91) (.seq (.reg [⟨some 4, .mv (.c (.d (.bool false))), none⟩] [4])
           .ret)
          .skip))
        (.seq (.seq (.reg [⟨some 92, .fld (.t 3) 2, none⟩,
              ⟨some 93, .ldl (.t 92) none, none⟩,
              ⟨some 94, .len (.t 93), none⟩,
              ⟨some 95, .mv (.t 5), none⟩,
              ⟨some 96, .bin .lss (.t 94) (.t 95), none⟩,
              ⟨some 97, .mv (.t 96), none⟩,
              ⟨some 98, .fld (.t 3) 2, some (97, false)⟩,
              ⟨some 99, .ldl (.t 98) none, some (97, false)⟩,
              ⟨some 100, .len (.t 99), some (97, false)⟩,
              ⟨some 101, .mv (.t 6), some (97, false)⟩,
              ⟨some 102, .bin .gtr (.t 100) (.t 101), some (97, false)⟩,
              ⟨some 103, .pick (.t 97) (.c (.d (.bool true))) (.t 102), none⟩] [2, 3, 103])
          (.cond (.t 103) (.seq (.reg [⟨some 4, .mv (.c (.d (.bool false))), none⟩] [4])
            .ret)
           .skip))
         (.seq (.reg [⟨some 104, .fld (.t 3) 2, none⟩,
              ⟨some 105, .ldl (.t 104) none, none⟩,
              ⟨some 106, .mkf 79 [] [(.t 2)], none⟩,
              ⟨some 107, .call 78 [(.t 105), (.t 106)], none⟩,
              ⟨some 108, .un .not (.t 107), none⟩,
              ⟨some 4, .mv (.t 108), none⟩] [4])
          .ret))))))))

def t_typing_validator_valid : List (List Nat × PT) := [([2, 3], .done), ([2, 3], .done), ([2, 3, 18], .done), ([4], .done), ([2, 3, 5, 6], .done), ([2, 3, 5, 6, 20], .done), ([2, 3, 5, 6, 20, 21], .done), ([2, 3, 5, 6, 20, 21], .done), ([2, 3, 5, 6, 20, 21], .done), ([2, 3, 5, 6, 20, 25], .done), ([2, 3, 5, 6, 38], .done), ([4], .done), ([2, 3, 20, 39], .done), ([2, 3, 53], .done), ([4], .done), ([2, 3, 5, 6], .done), ([2, 3, 20, 72], .done), ([2, 3, 5, 6], .done), ([2, 3, 20, 74], .done), ([2, 3, 20, 74], .done), ([2, 3, 5, 6], .done), ([2, 3, 77], .done), ([2, 3, 5, 6], .done), ([4], .done), ([2, 3, 5, 6, 91], .done), ([4], .done), ([2, 3, 103], .done), ([4], .done), ([4], .done)]

noncomputable def x_typing_validator_valid : Cx := ⟨Tryd.prog, 44, Tryd.f44, 109, [2, 300020, 300028, 300032, 300042, 300046, 300059, 300068, 300080, 300084, 300089, 300093, 300099, 300105], [], [.t 4]⟩
theorem g_typing_validator_valid : Good x_typing_validator_valid := ⟨Tryd.func44, by kernel_rfl⟩
theorem rs_typing_validator_valid : x_typing_validator_valid.rs = [.t 4] := rfl
theorem k_typing_validator_valid : compC Tryd.prog 109 [2, 300020, 300028, 300032, 300042, 300046, 300059, 300068, 300080, 300084, 300089, 300093, 300099, 300105] [] (Tryd.f44.body.getD .skip) t_typing_validator_valid = some (c_typing_validator_valid, []) := by kernel_rfl
theorem b_typing_validator_valid : Tryd.f44.body = some (Tryd.f44.body.getD .skip) := by kernel_rfl
theorem i_typing_validator_valid {args : List AV} {σ : Heap} {K : AV → Heap → Prop} (hl : args.length ≤ 109) (h : Run x_typing_validator_valid K [.code c_typing_validator_valid] (argF args) E σ) : ACalls Tryd.prog 44 args σ K :=
  acalls_of (cx := x_typing_validator_valid) g_typing_validator_valid b_typing_validator_valid Tryd.ntmps44 hl (compC_rc x_typing_validator_valid _ _ _ _ k_typing_validator_valid) h

/-! ### amortcost/amortcostref6.Size -/
/- slots of c_r6_Size_L0 : [1, 3, 4] -/
def c_r6_Size_L0 : C := (.seq (.seq (.reg [⟨some 5, .mv (.t 4), none⟩,
        ⟨some 6, .fld (.t 1) 2, none⟩,
        ⟨some 7, .ldl (.t 6) none, none⟩,
        ⟨some 8, .len (.t 7), none⟩,
        ⟨some 9, .bin .lss (.t 5) (.t 8), none⟩] [1, 3, 4, 9])
    (.cond (.t 9) .skip
     (.exit 0)))
   (.seq (.block 1 (.reg [⟨some 12, .mv (.t 3), none⟩,
         ⟨some 13, .fld (.t 1) 2, none⟩,
         ⟨some 14, .ldl (.t 13) none, none⟩,
         ⟨some 15, .mv (.t 4), none⟩,
         ⟨some 16, .ix (.t 14) (.t 15) 3, none⟩,
         ⟨some 17, .ld (.t 16) (some 3), none⟩,
         ⟨some 18, .call 45 [(.t 17)], none⟩,
         ⟨some 19, .bin .add (.t 12) (.t 18), none⟩,
         ⟨some 3, .mv (.t 19), none⟩] [1, 3, 4]))
    (.reg [⟨some 10, .mv (.t 4), none⟩,
        ⟨some 11, .bin .add (.t 10) (.c (.d (.int .i64 1))), none⟩,
        ⟨some 4, .mv (.t 11), none⟩] [1, 3, 4])))

def c_r6_Size : C := (.seq (.reg [⟨some 1, .box (.t 0) false, none⟩,
       ⟨some 2, .mv (.c (.d (.int .i64 0))), none⟩] [1])
   (.seq (.reg [⟨some 3, .mv (.c (.d (.int .i64 1))), none⟩] [1, 3])
    (.seq (.seq (.reg [⟨some 4, .mv (.c (.d (.int .i64 0))), none⟩] [1, 3, 4])
      (.block 0 (.loop c_r6_Size_L0)))
     (.seq (.reg [⟨some 20, .mv (.t 3), none⟩,
          ⟨some 2, .mv (.t 20), none⟩] [2])
      .ret))))

def t_r6_Size : List (List Nat × PT) := [([1], .done), ([1, 3], .done), ([1, 3, 4], .done), ([1, 3, 4, 9], .done), ([1, 3, 4], .done), ([1, 3, 4], .done), ([2], .done)]

noncomputable def x_r6_Size : Cx := ⟨Tryd.prog, 45, Tryd.f45, 21, [300007, 300014], [], [.t 2]⟩
theorem g_r6_Size : Good x_r6_Size := ⟨Tryd.func45, by kernel_rfl⟩
theorem rs_r6_Size : x_r6_Size.rs = [.t 2] := rfl
theorem k_r6_Size : compC Tryd.prog 21 [300007, 300014] [] (Tryd.f45.body.getD .skip) t_r6_Size = some (c_r6_Size, []) := by kernel_rfl
theorem b_r6_Size : Tryd.f45.body = some (Tryd.f45.body.getD .skip) := by kernel_rfl
theorem i_r6_Size {args : List AV} {σ : Heap} {K : AV → Heap → Prop} (hl : args.length ≤ 21) (h : Run x_r6_Size K [.code c_r6_Size] (argF args) E σ) : ACalls Tryd.prog 45 args σ K :=
  acalls_of (cx := x_r6_Size) g_r6_Size b_r6_Size Tryd.ntmps45 hl (compC_rc x_r6_Size _ _ _ _ k_r6_Size) h

/-! ### amortcost/amortcostref6.valid -/
/- slots of c_r6_valid_L0 : [0, 2, 4, 7, 8] -/
def c_r6_valid_L0 : C := (.seq (.seq (.reg [⟨some 98, .mv (.t 8), none⟩,
        ⟨some 99, .mv (.t 7), none⟩,
        ⟨some 100, .bin .lss (.t 98) (.t 99), none⟩] [0, 2, 4, 7, 8, 100])
    (.cond (.t 100) .skip
     (.exit 1)))
   (.seq (.block 2 (.seq (.reg [⟨some 103, .mv (.t 0), none⟩,
          ⟨some 104, .fld (.t 4) 2, none⟩,
          ⟨some 105, .ldl (.t 104) none, none⟩,
          ⟨some 106, .mv (.t 8), none⟩,
          ⟨some 107, .ix (.t 105) (.t 106) 3, none⟩,
          ⟨some 108, .ld (.t 107) (some 3), none⟩,
          ⟨some 109, .mv (.t 2), none⟩,
          ⟨some 110, .call 46 [(.t 103), (.t 108), (.t 109)], none⟩,
          ⟨some 111, .un .not (.t 110), none⟩] [0, 2, 4, 7, 8, 111])
      (.cond (.t 111) (.seq (.reg [⟨some 6, .mv (.c (.d (.bool false))), none⟩] [6])
        .ret)
       .skip)))
    (.reg [⟨some 101, .mv (.t 8), none⟩,
        ⟨some 102, .bin .add (.t 101) (.c (.d (.int .i64 1))), none⟩,
        ⟨some 8, .mv (.t 102), none⟩] [0, 2, 4, 7, 8])))

def c_r6_valid : C := (.seq (.reg [⟨some 4, .box (.t 1) false, none⟩,
       ⟨some 6, .mv (.c (.d (.bool false))), none⟩] [0, 2, 4])
   (.seq (.reg [⟨some 9, .fld (.t 4) 2, none⟩,
        ⟨some 10, .ldl (.t 9) none, none⟩,
        ⟨some 11, .len (.t 10), none⟩,
        ⟨some 7, .mv (.t 11), none⟩] [0, 2, 4, 7])
    (.seq (.seq (.reg [⟨some 12, .fld (.t 4) 0, none⟩,
          ⟨some 13, .ldl (.t 12) none, none⟩] [0, 2, 4, 7, 13])
      (.block 0 (.seq (.seq (.reg [⟨some 15, .bin .eql (.t 13) (.c (.d (.int .i64 1))), none⟩,
             ⟨some 14, .mv (.t 15), none⟩] [0, 2, 4, 7, 13, 14])
         (.cond (.t 14) .skip
          (.seq (.reg [⟨some 16, .bin .eql (.t 13) (.c (.d (.int .i64 2))), none⟩,
               ⟨some 14, .mv (.t 16), none⟩] [0, 2, 4, 7, 13, 14])
           (.cond (.t 14) .skip
            (.reg [⟨some 17, .bin .eql (.t 13) (.c (.d (.int .i64 3))), none⟩,
                ⟨some 14, .mv (.t 17), none⟩] [0, 2, 4, 7, 13, 14])))))
        (.cond (.t 14) (.seq (.reg [⟨some 18, .fld (.t 4) 1, none⟩,
              ⟨some 19, .ldl (.t 18) none, none⟩,
              ⟨some 20, .bin .eql (.t 19) (.c (.d (.int .i64 0))), none⟩,
              ⟨some 21, .mv (.t 20), none⟩,
              ⟨some 22, .mv (.t 7), some (21, true)⟩,
              ⟨some 23, .bin .eql (.t 22) (.c (.d (.int .i64 0))), some (21, true)⟩,
              ⟨some 24, .pick (.t 21) (.t 23) (.c (.d (.bool false))), none⟩,
              ⟨some 6, .mv (.t 24), none⟩] [6])
          .ret)
         (.seq (.reg [⟨some 26, .bin .eql (.t 13) (.c (.d (.int .i64 4))), none⟩,
              ⟨some 25, .mv (.t 26), none⟩] [0, 2, 4, 7, 13, 25])
          (.cond (.t 25) (.seq (.reg [⟨some 27, .fld (.t 4) 1, none⟩,
                ⟨some 28, .ldl (.t 27) none, none⟩,
                ⟨some 29, .bin .geq (.t 28) (.c (.d (.int .i64 0))), none⟩,
                ⟨some 30, .mv (.t 29), none⟩,
                ⟨some 31, .fld (.t 4) 1, some (30, true)⟩,
                ⟨some 32, .ldl (.t 31) none, some (30, true)⟩,
                ⟨some 33, .mv (.t 2), some (30, true)⟩,
                ⟨some 34, .bin .lss (.t 32) (.t 33), some (30, true)⟩,
                ⟨some 35, .pick (.t 30) (.t 34) (.c (.d (.bool false))), none⟩,
                ⟨some 36, .mv (.t 35), none⟩,
                ⟨some 37, .mv (.t 7), some (36, true)⟩,
                ⟨some 38, .bin .eql (.t 37) (.c (.d (.int .i64 0))), some (36, true)⟩,
                ⟨some 39, .pick (.t 36) (.t 38) (.c (.d (.bool false))), none⟩,
                ⟨some 6, .mv (.t 39), none⟩] [6])
            .ret)
           (.seq (.reg [⟨some 41, .bin .eql (.t 13) (.c (.d (.int .i64 5))), none⟩,
                ⟨some 40, .mv (.t 41), none⟩] [0, 2, 4, 7, 13, 40])
            (.cond (.t 40) (.seq (.reg [⟨some 42, .fld (.t 4) 1, none⟩,
                  ⟨some 43, .ldl (.t 42) none, none⟩,
                  ⟨some 44, .bin .lss (.t 43) (.c (.d (.int .i64 0))), none⟩,
                  ⟨some 45, .mv (.t 44), none⟩,
                  ⟨some 46, .fld (.t 4) 1, some (45, false)⟩,
                  ⟨some 47, .ldl (.t 46) none, some (45, false)⟩,
                  ⟨some 48, .mv (.t 0), some (45, false)⟩,
                  ⟨some 49, .len (.t 48), some (45, false)⟩,
                  ⟨some 50, .bin .geq (.t 47) (.t 49), some (45, false)⟩,
                  ⟨some 51, .pick (.t 45) (.c (.d (.bool true))) (.t 50), none⟩,
                  ⟨some 52, .mv (.t 51), none⟩,
                  ⟨some 53, .mv (.t 7), some (52, false)⟩,
                  ⟨some 54, .mv (.t 0), some (52, false)⟩,
                  ⟨some 55, .fld (.t 4) 1, some (52, false)⟩,
                  ⟨some 56, .ldl (.t 55) none, some (52, false)⟩,
                  ⟨some 57, .ix (.t 54) (.t 56) 3, some (52, false)⟩,
                  ⟨some 58, .fld (.t 57) 1, some (52, false)⟩,
                  ⟨some 59, .ld (.t 58) none, some (52, false)⟩,
                  ⟨some 60, .bin .neq (.t 53) (.t 59), some (52, false)⟩,
                  ⟨some 61, .pick (.t 52) (.c (.d (.bool true))) (.t 60), none⟩] [0, 2, 4, 7, 61])
              (.cond (.t 61) (.seq (.reg [⟨some 6, .mv (.c (.d (.bool false))), none⟩] [6])
                .ret)
               .skip))
             (.seq (.reg [⟨some 63, .bin .eql (.t 13) (.c (.d (.int .i64 6))), none⟩,
                  ⟨some 62, .mv (.t 63), none⟩] [0, 2, 4, 7, 13, 62])
              (.cond (.t 62) (.seq (.reg [⟨some 64, .fld (.t 4) 1, none⟩,
                    ⟨some 65, .ldl (.t 64) none, none⟩,
                    ⟨some 66, .bin .neq (.t 65) (.c (.d (.int .i64 0))), none⟩,
                    ⟨some 67, .mv (.t 66), none⟩,
                    ⟨some 68, .mv (.t 7), some (67, false)⟩,
                    ⟨some 69, .bin .lss (.t 68) (.c (.d (.int .i64 2))), some (67, false)⟩,
                    ⟨some 70, .pick (.t 67) (.c (.d (.bool true))) (.t 69), none⟩,
                    ⟨some 71, .mv (.t 70), none⟩,
                    ⟨some 72, .mv (.t 7), some (71, false)⟩,
                    ⟨some 73, .bin .gtr (.t 72) (.c (.d (.int .i64 6))), some (71, false)⟩,
                    ⟨some 74, .pick (.t 71) (.c (.d (.bool true))) (.t 73), none⟩] [0, 2, 4, 7, 74])
                (.cond (.t 74) (.seq (.reg [⟨some 6, .mv (.c (.d (.bool false))), none⟩] [6])
                  .ret)
                 .skip))
               (.seq (.seq (.reg [⟨some 76, .bin .eql (.t 13) (.c (.d (.int .i64 7))), none⟩,
                     ⟨some 75, .mv (.t 76), none⟩] [0, 2, 4, 7, 13, 75])
                 (.cond (.t 75) .skip
                  (.reg [⟨some 77, .bin .eql (.t 13) (.c (.d (.int .i64 8))), none⟩,
                      ⟨some 75, .mv (.t 77), none⟩] [0, 2, 4, 7, 13, 75])))
                (.cond (.t 75) (.seq (.reg [⟨some 78, .fld (.t 4) 1, none⟩,
                      ⟨some 79, .ldl (.t 78) none, none⟩,
                      ⟨some 80, .bin .neq (.t 79) (.c (.d (.int .i64 0))), none⟩,
                      ⟨some 81, .mv (.t 80), none⟩,
                      ⟨some 82, .mv (.t 7), some (81, false)⟩,
                      ⟨some 83, .bin .neq (.t 82) (.c (.d (.int .i64 1))), some (81, false)⟩,
                      ⟨some 84, .pick (.t 81) (.c (.d (.bool true))) (.t 83), none⟩] [0, 2, 4, 7, 84])
                  (.cond (.t 84) (.seq (.reg [⟨some 6, .mv (.c (.d (.bool false))), none⟩] [6])
                    .ret)
                   .skip))
                 (.seq (.reg [⟨some 86, .bin .eql (.t 13) (.c (.d (.int .i64 9))), none⟩,
                      ⟨some 85, .mv (.t 86), none⟩] [0, 2, 4, 7, 85])
                  (.cond (.t 85) (.seq (.reg [⟨some 87, .fld (.t 4) 1, none⟩,
                        ⟨some 88, .ldl (.t 87) none, none⟩,
                        ⟨some 89, .bin .neq (.t 88) (.c (.d (.int .i64 0))), none⟩,
                        ⟨some 90, .mv (.t 89), none⟩,
                        ⟨some 91, .mv (.t 7), some (90, false)⟩,
                        ⟨some 92, .bin .lss (.t 91) (.c (.d (.int .i64 1))), some (90, false)⟩,
                        ⟨some 93, .pick (.t 90) (.c (.d (.bool true))) (.t 92), none⟩,
                        ⟨some 94, .mv (.t 93), none⟩,
                        ⟨some 95, .mv (.t 7), some (94, false)⟩,
                        ⟨some 96, .bin .gtr (.t 95) (.c (.d (.int .i64 7))), some (94, false)⟩,
                        ⟨some 97, .pick (.t 94) (.c (.d (.bool true))) (.t 96), none⟩] [0, 2, 4, 7, 97])
                    (.cond (.t 97) (.seq (.reg [⟨some 6, .mv (.c (.d (.bool false))), none⟩] [6])
                      .ret)
                     .skip))
                   (.seq (.reg [⟨some 6, .mv (.c (.d (.bool false))), none⟩] [6])
                    .ret)))))))))))))))
     (.seq (.seq (.reg [⟨some 8, .mv (.c (.d (.int .i64 0))), none⟩] [0, 2, 4, 7, 8])
       (.block 1 (.loop c_r6_valid_L0)))
      (.seq (.reg [⟨some 6, .mv (.c (.d (.bool true))), none⟩] [6])
       .ret)))))

def t_r6_valid : List (List Nat × PT) := [([0, 2, 4], .done), ([0, 2, 4, 7], .done), ([0, 2, 4, 7, 13], .done), ([0, 2, 4, 7, 13, 14], .done), ([0, 2, 4, 7, 13, 14], .done), ([0, 2, 4, 7, 13, 14], .done), ([6], .done), ([0, 2, 4, 7, 13, 25], .done), ([6], .done), ([0, 2, 4, 7, 13, 40], .done), ([0, 2, 4, 7, 61], .done), ([6], .done), ([0, 2, 4, 7, 13, 62], .done), ([0, 2, 4, 7, 74], .done), ([6], .done), ([0, 2, 4, 7, 13, 75], .done), ([0, 2, 4, 7, 13, 75], .done), ([0, 2, 4, 7, 84], .done), ([6], .done), ([0, 2, 4, 7, 85], .done), ([0, 2, 4, 7, 97], .done), ([6], .done), ([6], .done), ([0, 2, 4, 7, 8], .done), ([0, 2, 4, 7, 8, 100], .done), ([0, 2, 4, 7, 8, 111], .done), ([6], .done), ([0, 2, 4, 7, 8], .done), ([6], .done)]

noncomputable def x_r6_valid : Cx := ⟨Tryd.prog, 46, Tryd.f46, 112, [300010, 300013, 300019, 300028, 300032, 300043, 300047, 300056, 300065, 300079, 300088, 300105], [], [.t 6]⟩
theorem g_r6_valid : Good x_r6_valid := ⟨Tryd.func46, by kernel_rfl⟩
theorem rs_r6_valid : x_r6_valid.rs = [.t 6] := rfl
theorem k_r6_valid : compC Tryd.prog 112 [300010, 300013, 300019, 300028, 300032, 300043, 300047, 300056, 300065, 300079, 300088, 300105] [] (Tryd.f46.body.getD .skip) t_r6_valid = some (c_r6_valid, []) := by kernel_rfl
theorem b_r6_valid : Tryd.f46.body = some (Tryd.f46.body.getD .skip) := by kernel_rfl
theorem i_r6_valid {args : List AV} {σ : Heap} {K : AV → Heap → Prop} (hl : args.length ≤ 112) (h : Run x_r6_valid K [.code c_r6_valid] (argF args) E σ) : ACalls Tryd.prog 46 args σ K :=
  acalls_of (cx := x_r6_valid) g_r6_valid b_r6_valid Tryd.ntmps46 hl (compC_rc x_r6_valid _ _ _ _ k_r6_valid) h

/-! ### amortcost/typing.text -/
/- slots of c_typing_text_L0 : [0, 3, 5, 11, 12, 13] -/
def c_typing_text_L0 : C := (.seq (.reg [⟨some 14, .bin .lss (.t 13) (.t 12), none⟩] [0, 3, 5, 11, 12, 13, 14])
   (.seq (.cond (.t 14) .skip
     (.exit 0))
    (.seq (.block 1 (.seq (.reg [⟨some 15, .ix (.t 11) (.t 13) 3, none⟩,
           ⟨some 16, .ld (.t 15) (some 3), none⟩,
           ⟨some 7, .al [(.d (.int .i64 0)), (.d (.int .i64 0)), .nils] false, none⟩,
           ⟨none, .st (.t 7) (.t 16) 3, none⟩] [0, 3, 5, 7, 11, 12, 13])
       (.reg [⟨some 17, .mv (.t 5), none⟩,
           ⟨some 18, .mv (.t 0), none⟩,
           ⟨some 19, .ldl (.t 7) (some 3), none⟩,
           ⟨some 20, .call 47 [(.t 18), (.t 19)], none⟩,
           ⟨some 21, .bsl 1 1 [(.d (.str []))] [(0, 1, (.t 20))], none⟩,
           ⟨some 22, .app 9 1 16 (.t 17) (.t 21), none⟩,
           ⟨some 5, .mv (.t 22), none⟩] [0, 3, 5, 11, 12, 13])))
     (.reg [⟨some 23, .bin .add (.t 13) (.c (.d (.int .i64 1))), none⟩,
         ⟨some 13, .mv (.t 23), none⟩] [0, 3, 5, 11, 12, 13]))))

def c_typing_text : C := (.seq (.reg [⟨some 3, .box (.t 1) false, none⟩,
       ⟨some 4, .mv (.c (.d (.str []))), none⟩] [0, 3])
   (.seq (.reg [⟨some 5, .mv (.c .nils), none⟩] [0, 3, 5])
    (.seq (.seq (.reg [⟨some 10, .fld (.t 3) 2, none⟩,
          ⟨some 11, .ldl (.t 10) none, none⟩,
          ⟨some 12, .len (.t 11), none⟩,
          ⟨some 13, .mv (.c (.d (.int .i64 0))), none⟩] [0, 3, 5, 11, 12, 13])
      (.block 0 (.loop c_typing_text_L0)))
     (.seq (.reg [⟨some 24, .mv (.t 5), none⟩,
          ⟨some 25, .call 80 [(.t 24), (.c (.d (.str [44, 32])))], none⟩,
          ⟨some 26, .bin .add (.c (.d (.str [40]))) (.t 25), none⟩,
          ⟨some 27, .bin .add (.t 26) (.c (.d (.str [41]))), none⟩,
          ⟨some 8, .mv (.t 27), none⟩] [0, 3, 5, 8])
      (.seq (.seq (.reg [⟨some 28, .fld (.t 3) 0, none⟩,
            ⟨some 29, .ldl (.t 28) none, none⟩] [0, 3, 5, 8, 29])
        (.block 2 (.seq (.reg [⟨some 31, .bin .eql (.t 29) (.c (.d (.int .i64 1))), none⟩,
              ⟨some 30, .mv (.t 31), none⟩] [0, 3, 5, 8, 29, 30])
          (.cond (.t 30) (.seq (.reg [⟨some 4, .mv (.c (.d (.str [105, 110, 116]))), none⟩] [4])
            .ret)
           (.seq (.reg [⟨some 33, .bin .eql (.t 29) (.c (.d (.int .i64 2))), none⟩,
                ⟨some 32, .mv (.t 33), none⟩] [0, 3, 5, 8, 29, 32])
            (.cond (.t 32) (.seq (.reg [⟨some 4, .mv (.c (.d (.str [98, 111, 111, 108]))), none⟩] [4])
              .ret)
             (.seq (.reg [⟨some 35, .bin .eql (.t 29) (.c (.d (.int .i64 3))), none⟩,
                  ⟨some 34, .mv (.t 35), none⟩] [0, 3, 5, 8, 29, 34])
              (.cond (.t 34) (.seq (.reg [⟨some 4, .mv (.c (.d (.str [117, 110, 105, 116]))), none⟩] [4])
                .ret)
               (.seq (.reg [⟨some 37, .bin .eql (.t 29) (.c (.d (.int .i64 4))), none⟩,
                    ⟨some 36, .mv (.t 37), none⟩] [0, 3, 5, 8, 29, 36])
                (.cond (.t 36) (.seq (.reg [⟨some 38, .fld (.t 3) 1, none⟩,
                      ⟨some 39, .ldl (.t 38) none, none⟩,
                      ⟨some 40, .call 54 [(.t 39)], none⟩,
                      ⟨some 41, .bin .add (.c (.d (.str [97]))) (.t 40), none⟩,
                      ⟨some 4, .mv (.t 41), none⟩] [4])
                  .ret)
                 (.seq (.reg [⟨some 43, .bin .eql (.t 29) (.c (.d (.int .i64 7))), none⟩,
                      ⟨some 42, .mv (.t 43), none⟩] [0, 3, 5, 8, 29, 42])
                  (.cond (.t 42) (.seq (.reg [⟨some 44, .mv (.t 8), none⟩,
                        ⟨some 45, .bin .add (.c (.d (.str [97, 114, 114, 97, 121]))) (.t 44), none⟩,
                        ⟨some 4, .mv (.t 45), none⟩] [4])
                    .ret)
                   (.seq (.reg [⟨some 47, .bin .eql (.t 29) (.c (.d (.int .i64 8))), none⟩,
                        ⟨some 46, .mv (.t 47), none⟩] [0, 3, 5, 8, 29, 46])
                    (.cond (.t 46) (.seq (.reg [⟨some 48, .mv (.t 8), none⟩,
                          ⟨some 49, .bin .add (.c (.d (.str [114, 101, 102]))) (.t 48), none⟩,
                          ⟨some 4, .mv (.t 49), none⟩] [4])
                      .ret)
                     (.seq (.reg [⟨some 51, .bin .eql (.t 29) (.c (.d (.int .i64 9))), none⟩,
                          ⟨some 50, .mv (.t 51), none⟩] [0, 3, 5, 8, 29, 50])
                      (.cond (.t 50) (.seq (.reg [⟨some 52, .mv (.t 5), none⟩,
                            ⟨some 53, .len (.t 52), none⟩,
                            ⟨some 54, .bin .sub (.t 53) (.c (.d (.int .i64 1))), none⟩,
                            ⟨some 9, .mv (.t 54), none⟩] [5, 9])
                        (.seq (.regT (.one ⟨some 55, .mv (.t 5), none⟩
   (.one ⟨some 56, .mv (.t 9), none⟩
   (.one ⟨some 57, .sls (.t 55) none (some (.t 56)) none 1, none⟩
   (.one ⟨some 61, .mv (.t 5), none⟩
   (.one ⟨some 62, .mv (.t 9), none⟩
   (.one ⟨some 63, .ix (.t 61) (.t 62) 1, none⟩
   (.alt ⟨some 58, .call 80 [(.t 57), (.c (.d (.str [44, 32])))], none⟩
   (.one ⟨some 59, .bin .add (.c (.d (.str [102, 110, 40]))) (.t 58), none⟩
   (.one ⟨some 60, .bin .add (.t 59) (.c (.d (.str [41, 32, 45, 62, 32]))), none⟩
   (.one ⟨some 64, .ld (.t 63) none, none⟩
   (.one ⟨some 65, .bin .add (.t 60) (.t 64), none⟩
   (.one ⟨some 4, .mv (.t 65), none⟩
   .done)))))
   (.alt ⟨some 64, .ld (.t 63) none, none⟩
   (.one ⟨some 58, .call 80 [(.t 57), (.c (.d (.str [44, 32])))], none⟩
   (.one ⟨some 59, .bin .add (.c (.d (.str [102, 110, 40]))) (.t 58), none⟩
   (.one ⟨some 60, .bin .add (.t 59) (.c (.d (.str [41, 32, 45, 62, 32]))), none⟩
   (.one ⟨some 65, .bin .add (.t 60) (.t 64), none⟩
   (.one ⟨some 4, .mv (.t 65), none⟩
   .done)))))
   .done)))))))) [4])
                         .ret))
                       (.seq (.reg [⟨some 67, .bin .eql (.t 29) (.c (.d (.int .i64 5))), none⟩,
                            ⟨some 66, .mv (.t 67), none⟩] [0, 3, 5, 8, 66])
                        (.cond (.t 66) (.seq (.seq (.reg [⟨some 68, .mv (.t 5), none⟩,
                               ⟨some 69, .len (.t 68), none⟩,
                               ⟨some 70, .bin .eql (.t 69) (.c (.d (.int .i64 0))), none⟩] [0, 3, 8, 70])
                           (.cond (.t 70) (.seq (.reg [⟨some 71, .mv (.t 0), none⟩,
                                 ⟨some 72, .fld (.t 3) 1, none⟩,
                                 ⟨some 73, .ldl (.t 72) none, none⟩,
                                 ⟨some 74, .ix (.t 71) (.t 73) 3, none⟩,
                                 ⟨some 75, .fld (.t 74) 0, none⟩,
                                 ⟨some 76, .ld (.t 75) none, none⟩,
                                 ⟨some 4, .mv (.t 76), none⟩] [4])
                             .ret)
                            .skip))
                          (.seq (.reg [⟨some 77, .mv (.t 0), none⟩,
                               ⟨some 78, .fld (.t 3) 1, none⟩,
                               ⟨some 79, .ldl (.t 78) none, none⟩,
                               ⟨some 80, .ix (.t 77) (.t 79) 3, none⟩,
                               ⟨some 81, .fld (.t 80) 0, none⟩,
                               ⟨some 82, .ld (.t 81) none, none⟩,
                               ⟨some 83, .mv (.t 8), none⟩,
                               ⟨some 84, .bin .add (.t 82) (.t 83), none⟩,
                               ⟨some 4, .mv (.t 84), none⟩] [4])
                           .ret))
                         .skip))))))))))))))))))
       (.seq (.reg [⟨some 85, .mv (.t 8), none⟩,
            ⟨some 4, .mv (.t 85), none⟩] [4])
        .ret))))))

def t_typing_text : List (List Nat × PT) := [([0, 3], .done), ([0, 3, 5], .done), ([0, 3, 5, 11, 12, 13], .done), ([0, 3, 5, 11, 12, 13, 14], .done), ([0, 3, 5, 7, 11, 12, 13], .done), ([0, 3, 5, 11, 12, 13], .done), ([0, 3, 5, 11, 12, 13], .done), ([0, 3, 5, 8], .done), ([0, 3, 5, 8, 29], .done), ([0, 3, 5, 8, 29, 30], .done), ([4], .done), ([0, 3, 5, 8, 29, 32], .done), ([4], .done), ([0, 3, 5, 8, 29, 34], .done), ([4], .done), ([0, 3, 5, 8, 29, 36], .done), ([4], .done), ([0, 3, 5, 8, 29, 42], .done), ([4], .done), ([0, 3, 5, 8, 29, 46], .done), ([4], .done), ([0, 3, 5, 8, 29, 50], .done), ([5, 9], .done), ([4], (.one 0 (.one 1 (.one 2 (.one 6 (.one 7 (.one 8 (.alt 3 (.one 4 (.one 5 (.one 9 (.one 10 (.one 11 .done))))) (.alt 9 (.one 3 (.one 4 (.one 5 (.one 10 (.one 11 .done))))) .done))))))))), ([0, 3, 5, 8, 66], .done), ([0, 3, 8, 70], .done), ([4], .done), ([4], .done), ([4], .done)]

noncomputable def x_typing_text : Cx := ⟨Tryd.prog, 47, Tryd.f47, 86, [300011, 300019, 300029, 300039, 300073, 300079], [], [.t 4]⟩
theorem g_typing_text : Good x_typing_text := ⟨Tryd.func47, by kernel_rfl⟩
theorem rs_typing_text : x_typing_text.rs = [.t 4] := rfl
theorem k_typing_text : compC Tryd.prog 86 [300011, 300019, 300029, 300039, 300073, 300079] [] (Tryd.f47.body.getD .skip) t_typing_text = some (c_typing_text, []) := by kernel_rfl
theorem b_typing_text : Tryd.f47.body = some (Tryd.f47.body.getD .skip) := by kernel_rfl
theorem i_typing_text {args : List AV} {σ : Heap} {K : AV → Heap → Prop} (hl : args.length ≤ 86) (h : Run x_typing_text K [.code c_typing_text] (argF args) E σ) : ACalls Tryd.prog 47 args σ K :=
  acalls_of (cx := x_typing_text) g_typing_text b_typing_text Tryd.ntmps47 hl (compC_rc x_typing_text _ _ _ _ k_typing_text) h

/-! ### amortcost/amortcostref6.format -/
/- slots of c_r6_format_L0 : [0, 3, 5, 6, 7] -/
def c_r6_format_L0 : C := (.seq (.seq (.reg [⟨some 16, .mv (.t 7), none⟩,
        ⟨some 17, .mv (.t 6), none⟩,
        ⟨some 18, .bin .lss (.t 16) (.t 17), none⟩] [0, 3, 5, 6, 7, 18])
    (.cond (.t 18) .skip
     (.exit 0)))
   (.seq (.block 1 (.seq (.seq (.reg [⟨some 21, .mv (.t 7), none⟩,
           ⟨some 22, .bin .gtr (.t 21) (.c (.d (.int .i64 0))), none⟩] [0, 3, 5, 6, 7, 22])
       (.cond (.t 22) (.reg [⟨some 23, .mv (.t 5), none⟩,
            ⟨some 24, .bin .add (.t 23) (.c (.d (.str [44, 32]))), none⟩,
            ⟨some 5, .mv (.t 24), none⟩] [0, 3, 5, 6, 7])
        .skip))
      (.reg [⟨some 25, .mv (.t 5), none⟩,
          ⟨some 26, .mv (.t 0), none⟩,
          ⟨some 27, .fld (.t 3) 2, none⟩,
          ⟨some 28, .ldl (.t 27) none, none⟩,
          ⟨some 29, .mv (.t 7), none⟩,
          ⟨some 30, .ix (.t 28) (.t 29) 3, none⟩,
          ⟨some 31, .ld (.t 30) (some 3), none⟩,
          ⟨some 32, .call 48 [(.t 26), (.t 31)], none⟩,
          ⟨some 33, .bin .add (.t 25) (.t 32), none⟩,
          ⟨some 5, .mv (.t 33), none⟩] [0, 3, 5, 6, 7])))
    (.reg [⟨some 19, .mv (.t 7), none⟩,
        ⟨some 20, .bin .add (.t 19) (.c (.d (.int .i64 1))), none⟩,
        ⟨some 7, .mv (.t 20), none⟩] [0, 3, 5, 6, 7])))

def c_r6_format : C := (.seq (.reg [⟨some 3, .box (.t 1) false, none⟩,
       ⟨some 4, .mv (.c (.d (.str []))), none⟩] [0, 3])
   (.seq (.reg [⟨some 5, .mv (.c (.d (.str []))), none⟩] [0, 3, 5])
    (.seq (.reg [⟨some 8, .fld (.t 3) 2, none⟩,
         ⟨some 9, .ldl (.t 8) none, none⟩,
         ⟨some 10, .len (.t 9), none⟩,
         ⟨some 6, .mv (.t 10), none⟩] [0, 3, 5, 6])
     (.seq (.seq (.reg [⟨some 11, .fld (.t 3) 0, none⟩,
           ⟨some 12, .ldl (.t 11) none, none⟩,
           ⟨some 13, .bin .eql (.t 12) (.c (.d (.int .i64 9))), none⟩] [0, 3, 5, 6, 13])
       (.cond (.t 13) (.reg [⟨some 14, .mv (.t 6), none⟩,
            ⟨some 15, .bin .sub (.t 14) (.c (.d (.int .i64 1))), none⟩,
            ⟨some 6, .mv (.t 15), none⟩] [0, 3, 5, 6])
        .skip))
      (.seq (.seq (.reg [⟨some 7, .mv (.c (.d (.int .i64 0))), none⟩] [0, 3, 5, 6, 7])
        (.block 0 (.loop c_r6_format_L0)))
       (.seq (.seq (.reg [⟨some 34, .fld (.t 3) 0, none⟩,
             ⟨some 35, .ldl (.t 34) none, none⟩] [0, 3, 5, 6, 35])
         (.block 2 (.seq (.reg [⟨some 37, .bin .eql (.t 35) (.c (.d (.int .i64 1))), none⟩,
               ⟨some 36, .mv (.t 37), none⟩] [0, 3, 5, 6, 35, 36])
           (.cond (.t 36) (.seq (.reg [⟨some 4, .mv (.c (.d (.str [105, 110, 116]))), none⟩] [4])
             .ret)
            (.seq (.reg [⟨some 39, .bin .eql (.t 35) (.c (.d (.int .i64 2))), none⟩,
                 ⟨some 38, .mv (.t 39), none⟩] [0, 3, 5, 6, 35, 38])
             (.cond (.t 38) (.seq (.reg [⟨some 4, .mv (.c (.d (.str [98, 111, 111, 108]))), none⟩] [4])
               .ret)
              (.seq (.reg [⟨some 41, .bin .eql (.t 35) (.c (.d (.int .i64 3))), none⟩,
                   ⟨some 40, .mv (.t 41), none⟩] [0, 3, 5, 6, 35, 40])
               (.cond (.t 40) (.seq (.reg [⟨some 4, .mv (.c (.d (.str [117, 110, 105, 116]))), none⟩] [4])
                 .ret)
                (.seq (.reg [⟨some 43, .bin .eql (.t 35) (.c (.d (.int .i64 4))), none⟩,
                     ⟨some 42, .mv (.t 43), none⟩] [0, 3, 5, 6, 35, 42])
                 (.cond (.t 42) (.seq (.reg [⟨some 44, .fld (.t 3) 1, none⟩,
                       ⟨some 45, .ldl (.t 44) none, none⟩,
                       ⟨some 46, .call 81 [(.t 45)], none⟩,
                       ⟨some 47, .bin .add (.c (.d (.str [97]))) (.t 46), none⟩,
                       ⟨some 4, .mv (.t 47), none⟩] [4])
                   .ret)
                  (.seq (.reg [⟨some 49, .bin .eql (.t 35) (.c (.d (.int .i64 5))), none⟩,
                       ⟨some 48, .mv (.t 49), none⟩] [0, 3, 5, 6, 35, 48])
                   (.cond (.t 48) (.seq (.seq (.reg [⟨some 50, .mv (.t 6), none⟩,
                          ⟨some 51, .bin .eql (.t 50) (.c (.d (.int .i64 0))), none⟩] [0, 3, 5, 51])
                      (.cond (.t 51) (.seq (.reg [⟨some 52, .mv (.t 0), none⟩,
                            ⟨some 53, .fld (.t 3) 1, none⟩,
                            ⟨some 54, .ldl (.t 53) none, none⟩,
                            ⟨some 55, .ix (.t 52) (.t 54) 3, none⟩,
                            ⟨some 56, .fld (.t 55) 0, none⟩,
                            ⟨some 57, .ld (.t 56) none, none⟩,
                            ⟨some 4, .mv (.t 57), none⟩] [4])
                        .ret)
                       .skip))
                     (.seq (.reg [⟨some 58, .mv (.t 0), none⟩,
                          ⟨some 59, .fld (.t 3) 1, none⟩,
                          ⟨some 60, .ldl (.t 59) none, none⟩,
                          ⟨some 61, .ix (.t 58) (.t 60) 3, none⟩,
                          ⟨some 62, .fld (.t 61) 0, none⟩,
                          ⟨some 63, .ld (.t 62) none, none⟩,
                          ⟨some 64, .bin .add (.t 63) (.c (.d (.str [40]))), none⟩,
                          ⟨some 65, .mv (.t 5), none⟩,
                          ⟨some 66, .bin .add (.t 64) (.t 65), none⟩,
                          ⟨some 67, .bin .add (.t 66) (.c (.d (.str [41]))), none⟩,
                          ⟨some 4, .mv (.t 67), none⟩] [4])
                      .ret))
                    (.seq (.reg [⟨some 69, .bin .eql (.t 35) (.c (.d (.int .i64 7))), none⟩,
                         ⟨some 68, .mv (.t 69), none⟩] [0, 3, 5, 6, 35, 68])
                     (.cond (.t 68) (.seq (.reg [⟨some 70, .mv (.t 5), none⟩,
                           ⟨some 71, .bin .add (.c (.d (.str [97, 114, 114, 97, 121, 40]))) (.t 70), none⟩,
                           ⟨some 72, .bin .add (.t 71) (.c (.d (.str [41]))), none⟩,
                           ⟨some 4, .mv (.t 72), none⟩] [4])
                       .ret)
                      (.seq (.reg [⟨some 74, .bin .eql (.t 35) (.c (.d (.int .i64 8))), none⟩,
                           ⟨some 73, .mv (.t 74), none⟩] [0, 3, 5, 6, 35, 73])
                       (.cond (.t 73) (.seq (.reg [⟨some 75, .mv (.t 5), none⟩,
                             ⟨some 76, .bin .add (.c (.d (.str [114, 101, 102, 40]))) (.t 75), none⟩,
                             ⟨some 77, .bin .add (.t 76) (.c (.d (.str [41]))), none⟩,
                             ⟨some 4, .mv (.t 77), none⟩] [4])
                         .ret)
                        (.seq (.reg [⟨some 79, .bin .eql (.t 35) (.c (.d (.int .i64 9))), none⟩,
                             ⟨some 78, .mv (.t 79), none⟩] [0, 3, 5, 6, 78])
                         (.cond (.t 78) (.seq (.reg [⟨some 80, .mv (.t 5), none⟩,
                               ⟨some 81, .bin .add (.c (.d (.str [102, 110, 40]))) (.t 80), none⟩,
                               ⟨some 82, .bin .add (.t 81) (.c (.d (.str [41, 32, 45, 62, 32]))), none⟩,
                               ⟨some 83, .mv (.t 0), none⟩,
                               ⟨some 84, .fld (.t 3) 2, none⟩,
                               ⟨some 85, .ldl (.t 84) none, none⟩,
                               ⟨some 86, .mv (.t 6), none⟩,
                               ⟨some 87, .ix (.t 85) (.t 86) 3, none⟩,
                               ⟨some 88, .ld (.t 87) (some 3), none⟩,
                               ⟨some 89, .call 48 [(.t 83), (.t 88)], none⟩,
                               ⟨some 90, .bin .add (.t 82) (.t 89), none⟩,
                               ⟨some 4, .mv (.t 90), none⟩] [4])
                           .ret)
                          .skip))))))))))))))))))
        (.seq (.reg [⟨some 91, .mv (.t 5), none⟩,
             ⟨some 92, .bin .add (.c (.d (.str [40]))) (.t 91), none⟩,
             ⟨some 93, .bin .add (.t 92) (.c (.d (.str [41]))), none⟩,
             ⟨some 4, .mv (.t 93), none⟩] [4])
         .ret)))))))

def t_r6_format : List (List Nat × PT) := [([0, 3], .done), ([0, 3, 5], .done), ([0, 3, 5, 6], .done), ([0, 3, 5, 6, 13], .done), ([0, 3, 5, 6], .done), ([0, 3, 5, 6, 7], .done), ([0, 3, 5, 6, 7, 18], .done), ([0, 3, 5, 6, 7, 22], .done), ([0, 3, 5, 6, 7], .done), ([0, 3, 5, 6, 7], .done), ([0, 3, 5, 6, 7], .done), ([0, 3, 5, 6, 35], .done), ([0, 3, 5, 6, 35, 36], .done), ([4], .done), ([0, 3, 5, 6, 35, 38], .done), ([4], .done), ([0, 3, 5, 6, 35, 40], .done), ([4], .done), ([0, 3, 5, 6, 35, 42], .done), ([4], .done), ([0, 3, 5, 6, 35, 48], .done), ([0, 3, 5, 51], .done), ([4], .done), ([4], .done), ([0, 3, 5, 6, 35, 68], .done), ([4], .done), ([0, 3, 5, 6, 35, 73], .done), ([4], .done), ([0, 3, 5, 6, 78], .done), ([4], .done), ([4], .done)]

noncomputable def x_r6_format : Cx := ⟨Tryd.prog, 48, Tryd.f48, 94, [300009, 300012, 300028, 300035, 300045, 300054, 300060, 300085], [], [.t 4]⟩
theorem g_r6_format : Good x_r6_format := ⟨Tryd.func48, by kernel_rfl⟩
theorem rs_r6_format : x_r6_format.rs = [.t 4] := rfl
theorem k_r6_format : compC Tryd.prog 94 [300009, 300012, 300028, 300035, 300045, 300054, 300060, 300085] [] (Tryd.f48.body.getD .skip) t_r6_format = some (c_r6_format, []) := by kernel_rfl
theorem b_r6_format : Tryd.f48.body = some (Tryd.f48.body.getD .skip) := by kernel_rfl
theorem i_r6_format {args : List AV} {σ : Heap} {K : AV → Heap → Prop} (hl : args.length ≤ 94) (h : Run x_r6_format K [.code c_r6_format] (argF args) E σ) : ACalls Tryd.prog 48 args σ K :=
  acalls_of (cx := x_r6_format) g_r6_format b_r6_format Tryd.ntmps48 hl (compC_rc x_r6_format _ _ _ _ k_r6_format) h

/-! ### (*amortcost/typing.validator).valid$1 -/
def c_typing_validator_valid_1 : C := (.seq (.reg [⟨some 2, .box (.t 0) false, none⟩,
       ⟨some 3, .mv (.c (.d (.bool false))), none⟩] [1, 2])
   (.seq (.reg [⟨some 4, .ld (.t 1) none, none⟩,
        ⟨some 5, .ldl (.t 2) (some 3), none⟩,
        ⟨some 6, .call 44 [(.t 4), (.t 5)], none⟩,
        ⟨some 7, .un .not (.t 6), none⟩,
        ⟨some 3, .mv (.t 7), none⟩] [3])
    .ret))

def t_typing_validator_valid_1 : List (List Nat × PT) := [([1, 2], .done), ([3], .done)]

noncomputable def x_typing_validator_valid_1 : Cx := ⟨Tryd.prog, 79, Tryd.f79, 8, [300005], [], [.t 3]⟩
theorem g_typing_validator_valid_1 : Good x_typing_validator_valid_1 := ⟨Tryd.func79, by kernel_rfl⟩
theorem rs_typing_validator_valid_1 : x_typing_validator_valid_1.rs = [.t 3] := rfl
theorem k_typing_validator_valid_1 : compC Tryd.prog 8 [300005] [] (Tryd.f79.body.getD .skip) t_typing_validator_valid_1 = some (c_typing_validator_valid_1, []) := by kernel_rfl
theorem b_typing_validator_valid_1 : Tryd.f79.body = some (Tryd.f79.body.getD .skip) := by kernel_rfl
theorem i_typing_validator_valid_1 {args : List AV} {σ : Heap} {K : AV → Heap → Prop} (hl : args.length ≤ 8) (h : Run x_typing_validator_valid_1 K [.code c_typing_validator_valid_1] (argF args) E σ) : ACalls Tryd.prog 79 args σ K :=
  acalls_of (cx := x_typing_validator_valid_1) g_typing_validator_valid_1 b_typing_validator_valid_1 Tryd.ntmps79 hl (compC_rc x_typing_validator_valid_1 _ _ _ _ k_typing_validator_valid_1) h

/-! ### amortcost/amortcostref6.number -/
/- slots of c_r6_number_L0 : [0, 3] -/
def c_r6_number_L0 : C := (.seq (.seq (.reg [⟨some 12, .mv (.t 0), none⟩,
        ⟨some 13, .bin .gtr (.t 12) (.c (.d (.int .i64 0))), none⟩] [0, 3, 13])
    (.cond (.t 13) .skip
     (.exit 0)))
   (.seq (.block 1 (.reg [⟨some 16, .mv (.t 0), none⟩,
         ⟨some 17, .bin .rem (.t 16) (.c (.d (.int .i64 10))), none⟩,
         ⟨some 18, .bin .add (.c (.d (.int .i64 48))) (.t 17), none⟩,
         ⟨some 19, .conv .u8 (.t 18), none⟩,
         ⟨some 20, .bsl 1 1 [(.d (.int .u8 0))] [(0, 1, (.t 19))], none⟩,
         ⟨some 21, .ex .b2s [(.t 20)], none⟩,
         ⟨some 22, .mv (.t 3), none⟩,
         ⟨some 23, .bin .add (.t 21) (.t 22), none⟩,
         ⟨some 3, .mv (.t 23), none⟩] [0, 3]))
    (.reg [⟨some 14, .mv (.t 0), none⟩,
        ⟨some 15, .bin .quo (.t 14) (.c (.d (.int .i64 10))), none⟩,
        ⟨some 0, .mv (.t 15), none⟩] [0, 3])))

def c_r6_number : C := (.seq (.reg [⟨some 2, .mv (.c (.d (.str []))), none⟩] [0])
   (.seq (.reg [⟨some 4, .mv (.t 0), none⟩,
        ⟨some 5, .bin .rem (.t 4) (.c (.d (.int .i64 10))), none⟩,
        ⟨some 6, .bin .add (.c (.d (.int .i64 48))) (.t 5), none⟩,
        ⟨some 7, .conv .u8 (.t 6), none⟩,
        ⟨some 8, .bsl 1 1 [(.d (.int .u8 0))] [(0, 1, (.t 7))], none⟩,
        ⟨some 9, .ex .b2s [(.t 8)], none⟩,
        ⟨some 3, .mv (.t 9), none⟩] [0, 3])
    (.seq (.seq (.reg [⟨some 10, .mv (.t 0), none⟩,
          ⟨some 11, .bin .quo (.t 10) (.c (.d (.int .i64 10))), none⟩,
          ⟨some 0, .mv (.t 11), none⟩] [0, 3])
      (.block 0 (.loop c_r6_number_L0)))
     (.seq (.reg [⟨some 24, .mv (.t 3), none⟩,
          ⟨some 2, .mv (.t 24), none⟩] [2])
      .ret))))

def t_r6_number : List (List Nat × PT) := [([0], .done), ([0, 3], .done), ([0, 3], .done), ([0, 3, 13], .done), ([0, 3], .done), ([0, 3], .done), ([2], .done)]

noncomputable def x_r6_number : Cx := ⟨Tryd.prog, 81, Tryd.f81, 25, [], [], [.t 2]⟩
theorem g_r6_number : Good x_r6_number := ⟨Tryd.func81, by kernel_rfl⟩
theorem rs_r6_number : x_r6_number.rs = [.t 2] := rfl
theorem k_r6_number : compC Tryd.prog 25 [] [] (Tryd.f81.body.getD .skip) t_r6_number = some (c_r6_number, []) := by kernel_rfl
theorem b_r6_number : Tryd.f81.body = some (Tryd.f81.body.getD .skip) := by kernel_rfl
theorem i_r6_number {args : List AV} {σ : Heap} {K : AV → Heap → Prop} (hl : args.length ≤ 25) (h : Run x_r6_number K [.code c_r6_number] (argF args) E σ) : ACalls Tryd.prog 81 args σ K :=
  acalls_of (cx := x_r6_number) g_r6_number b_r6_number Tryd.ntmps81 hl (compC_rc x_r6_number _ _ _ _ k_r6_number) h

/-! ### slices.ContainsFunc(()amortcost/api.Type,amortcost/api.Type) -/
def c_slices_ContainsFunc_api_Type : C := (.seq (.reg [⟨some 4, .mv (.c (.d (.bool false))), none⟩] [0, 1])
   (.seq (.reg [⟨some 5, .mv (.t 0), none⟩,
        ⟨some 6, .mv (.t 1), none⟩,
        ⟨some 7, .call 102 [(.t 5), (.t 6)], none⟩,
        ⟨some 8, .bin .geq (.t 7) (.c (.d (.int .i64 0))), none⟩,
        ⟨some 4, .mv (.t 8), none⟩] [4])
    .ret))

def t_slices_ContainsFunc_api_Type : List (List Nat × PT) := [([0, 1], .done), ([4], .done)]

noncomputable def x_slices_ContainsFunc_api_Type : Cx := ⟨Tryd.prog, 78, Tryd.f78, 9, [], [], [.t 4]⟩
theorem g_slices_ContainsFunc_api_Type : Good x_slices_ContainsFunc_api_Type := ⟨Tryd.func78, by kernel_rfl⟩
theorem rs_slices_ContainsFunc_api_Type : x_slices_ContainsFunc_api_Type.rs = [.t 4] := rfl
theorem k_slices_ContainsFunc_api_Type : compC Tryd.prog 9 [] [] (Tryd.f78.body.getD .skip) t_slices_ContainsFunc_api_Type = some (c_slices_ContainsFunc_api_Type, []) := by kernel_rfl
theorem b_slices_ContainsFunc_api_Type : Tryd.f78.body = some (Tryd.f78.body.getD .skip) := by kernel_rfl
theorem i_slices_ContainsFunc_api_Type {args : List AV} {σ : Heap} {K : AV → Heap → Prop} (hl : args.length ≤ 9) (h : Run x_slices_ContainsFunc_api_Type K [.code c_slices_ContainsFunc_api_Type] (argF args) E σ) : ACalls Tryd.prog 78 args σ K :=
  acalls_of (cx := x_slices_ContainsFunc_api_Type) g_slices_ContainsFunc_api_Type b_slices_ContainsFunc_api_Type Tryd.ntmps78 hl (compC_rc x_slices_ContainsFunc_api_Type _ _ _ _ k_slices_ContainsFunc_api_Type) h

/-! ### slices.IndexFunc(()amortcost/api.Type,amortcost/api.Type) -/
/- slots of c_slices_IndexFunc_api_Type_L0 : [0, 1, 7, 8] -/
def c_slices_IndexFunc_api_Type_L0 : C := (.seq (.reg [⟨some 9, .bin .lss (.t 8) (.t 7), none⟩] [0, 1, 7, 8, 9])
   (.seq (.cond (.t 9) .skip
     (.exit 0))
    (.seq (.block 1 (.seq (.reg [⟨some 10, .mv (.t 8), none⟩,
           ⟨some 5, .mv (.t 10), none⟩] [0, 1, 5, 7, 8])
       (.seq (.reg [⟨some 11, .mv (.t 1), none⟩,
            ⟨some 12, .mv (.t 0), none⟩,
            ⟨some 13, .mv (.t 5), none⟩,
            ⟨some 14, .ix (.t 12) (.t 13) 3, none⟩,
            ⟨some 15, .ld (.t 14) (some 3), none⟩,
            ⟨some 16, .callv (.t 11) [(.t 15)], none⟩] [0, 1, 5, 7, 8, 16])
        (.cond (.t 16) (.seq (.reg [⟨some 17, .mv (.t 5), none⟩,
              ⟨some 4, .mv (.t 17), none⟩] [4])
          .ret)
         .skip))))
     (.reg [⟨some 18, .bin .add (.t 8) (.c (.d (.int .i64 1))), none⟩,
         ⟨some 8, .mv (.t 18), none⟩] [0, 1, 7, 8]))))

def c_slices_IndexFunc_api_Type : C := (.seq (.reg [⟨some 4, .mv (.c (.d (.int .i64 0))), none⟩] [0, 1])
   (.seq (.seq (.reg [⟨some 6, .mv (.t 0), none⟩,
         ⟨some 7, .len (.t 6), none⟩,
         ⟨some 8, .mv (.c (.d (.int .i64 0))), none⟩] [0, 1, 7, 8])
     (.block 0 (.loop c_slices_IndexFunc_api_Type_L0)))
    (.seq (.reg [⟨some 4, .mv (.c (.d (.int .i64 (-1)))), none⟩] [4])
     .ret)))

def t_slices_IndexFunc_api_Type : List (List Nat × PT) := [([0, 1], .done), ([0, 1, 7, 8], .done), ([0, 1, 7, 8, 9], .done), ([0, 1, 5, 7, 8], .done), ([0, 1, 5, 7, 8, 16], .done), ([4], .done), ([0, 1, 7, 8], .done), ([4], .done)]

noncomputable def x_slices_IndexFunc_api_Type : Cx := ⟨Tryd.prog, 102, Tryd.f102, 19, [], [], [.t 4]⟩
theorem g_slices_IndexFunc_api_Type : Good x_slices_IndexFunc_api_Type := ⟨Tryd.func102, by kernel_rfl⟩
theorem rs_slices_IndexFunc_api_Type : x_slices_IndexFunc_api_Type.rs = [.t 4] := rfl
theorem k_slices_IndexFunc_api_Type : compC Tryd.prog 19 [] [] (Tryd.f102.body.getD .skip) t_slices_IndexFunc_api_Type = some (c_slices_IndexFunc_api_Type, []) := by kernel_rfl
theorem b_slices_IndexFunc_api_Type : Tryd.f102.body = some (Tryd.f102.body.getD .skip) := by kernel_rfl
theorem i_slices_IndexFunc_api_Type {args : List AV} {σ : Heap} {K : AV → Heap → Prop} (hl : args.length ≤ 19) (h : Run x_slices_IndexFunc_api_Type K [.code c_slices_IndexFunc_api_Type] (argF args) E σ) : ACalls Tryd.prog 102 args σ K :=
  acalls_of (cx := x_slices_IndexFunc_api_Type) g_slices_IndexFunc_api_Type b_slices_IndexFunc_api_Type Tryd.ntmps102 hl (compC_rc x_slices_IndexFunc_api_Type _ _ _ _ k_slices_IndexFunc_api_Type) h

end Go.Ab
