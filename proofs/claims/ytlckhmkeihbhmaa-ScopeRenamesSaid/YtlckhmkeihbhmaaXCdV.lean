/- The compact codes of the functions of this seat, computed out of the translation. Conditions: none. -/
import Derived.Test.YtlckhmkeihbhmaaProg
import Derived.KernelRfl
import Derived.Test.YtlckhmkeihbhmaaXAb12b
set_option linter.unusedSimpArgs false
namespace Go.Ab
open Go.Proofs
variable {args : List AV} {σ : Heap} {K : AV → Heap → Prop}
theorem mixed : Try.prog.follows .mixedOrders = true := by kernel_rfl
def c_r4_Valid_L0 : C := (.seq (.seq (.reg [⟨some 79,.mv (.t 6),none⟩,
 ⟨some 80,.fld (.t 4) 2,none⟩,
 ⟨some 81,.ldl (.t 80) none,none⟩,
 ⟨some 82,.mv (.t 5),none⟩,
 ⟨some 83,.ix (.t 81) (.t 82) 2,none⟩,
 ⟨some 84,.fld (.t 83) 1,none⟩,
 ⟨some 85,.ld (.t 84) none,none⟩,
 ⟨some 86,.len (.t 85),none⟩,
 ⟨some 87,.bin .lss (.t 79) (.t 86),none⟩] [1,3,4,5,6,87])
 (.cond (.t 87) .skip
 (.exit 4)))
 (.seq (.block 5 (.seq (.reg [⟨some 90,.fld (.t 4) 2,none⟩,
 ⟨some 91,.ldl (.t 90) none,none⟩,
 ⟨some 92,.mv (.t 5),none⟩,
 ⟨some 93,.ix (.t 91) (.t 92) 2,none⟩,
 ⟨some 94,.fld (.t 93) 1,none⟩,
 ⟨some 95,.ld (.t 94) none,none⟩,
 ⟨some 96,.mv (.t 6),none⟩,
 ⟨some 97,.ix (.t 95) (.t 96) 3,none⟩,
 ⟨some 98,.ld (.t 97) (some 3),none⟩,
 ⟨some 99,.call 17 [(.t 98),(.c (.d (.int .i64 40)))],none⟩,
 ⟨some 100,.un .not (.t 99),none⟩] [1,3,4,5,6,100])
 (.cond (.t 100) (.seq (.reg [⟨some 2,.mv (.c (.d (.bool false))),none⟩] [2])
 .ret)
 .skip)))
 (.reg [⟨some 88,.mv (.t 6),none⟩,
 ⟨some 89,.bin .add (.t 88) (.c (.d (.int .i64 1))),none⟩,
 ⟨some 6,.mv (.t 89),none⟩] [1,3,4,5,6])))
def c_r4_Valid_L1 : C := (.seq (.seq (.reg [⟨some 54,.mv (.t 5),none⟩,
 ⟨some 55,.fld (.t 4) 2,none⟩,
 ⟨some 56,.ldl (.t 55) none,none⟩,
 ⟨some 57,.len (.t 56),none⟩,
 ⟨some 58,.bin .lss (.t 54) (.t 57),none⟩] [1,3,4,5,58])
 (.cond (.t 58) .skip
 (.exit 2)))
 (.seq (.block 3 (.seq (.seq (.reg [⟨some 61,.fld (.t 4) 2,none⟩,
 ⟨some 62,.ldl (.t 61) none,none⟩,
 ⟨some 63,.mv (.t 5),none⟩,
 ⟨some 64,.ix (.t 62) (.t 63) 2,none⟩,
 ⟨some 65,.fld (.t 64) 0,none⟩,
 ⟨some 66,.ld (.t 65) none,none⟩,
 ⟨some 67,.call 15 [(.t 66),(.c (.d (.int .i64 2)))],none⟩,
 ⟨some 68,.un .not (.t 67),none⟩,
 ⟨some 69,.mv (.t 68),none⟩,
 ⟨some 70,.fld (.t 4) 2,some (69,false)⟩,
 ⟨some 71,.ldl (.t 70) none,some (69,false)⟩,
 ⟨some 72,.mv (.t 5),some (69,false)⟩,
 ⟨some 73,.ix (.t 71) (.t 72) 2,some (69,false)⟩,
 ⟨some 74,.fld (.t 73) 1,some (69,false)⟩,
 ⟨some 75,.ld (.t 74) none,some (69,false)⟩,
 ⟨some 76,.len (.t 75),some (69,false)⟩,
 ⟨some 77,.bin .gtr (.t 76) (.c (.d (.int .i64 6))),some (69,false)⟩,
 ⟨some 78,.pick (.t 69) (.c (.d (.bool true))) (.t 77),none⟩] [1,3,4,5,78])
 (.cond (.t 78) (.seq (.reg [⟨some 2,.mv (.c (.d (.bool false))),none⟩] [2])
 .ret)
 .skip))
 (.seq (.reg [⟨some 6,.mv (.c (.d (.int .i64 0))),none⟩] [1,3,4,5,6])
 (.block 4 (.loop c_r4_Valid_L0)))))
 (.reg [⟨some 59,.mv (.t 5),none⟩,
 ⟨some 60,.bin .add (.t 59) (.c (.d (.int .i64 1))),none⟩,
 ⟨some 5,.mv (.t 60),none⟩] [1,3,4,5])))
def c_r4_Valid_L2 : C := (.seq (.seq (.reg [⟨some 20,.mv (.t 3),none⟩,
 ⟨some 21,.fld (.t 1) 0,none⟩,
 ⟨some 22,.ldl (.t 21) none,none⟩,
 ⟨some 23,.len (.t 22),none⟩,
 ⟨some 24,.bin .lss (.t 20) (.t 23),none⟩] [1,3,24])
 (.cond (.t 24) .skip
 (.exit 0)))
 (.seq (.block 1 (.seq (.reg [⟨some 27,.fld (.t 1) 0,none⟩,
 ⟨some 28,.ldl (.t 27) none,none⟩,
 ⟨some 29,.mv (.t 3),none⟩,
 ⟨some 30,.ix (.t 28) (.t 29) 3,none⟩,
 ⟨some 31,.ld (.t 30) (some 3),none⟩,
 ⟨some 4,.al [(.d (.str [])),.nils,.nils] false,none⟩,
 ⟨none,.st (.t 4) (.t 31) 3,none⟩] [1,3,4])
 (.seq (.seq (.reg [⟨some 32,.fld (.t 4) 0,none⟩,
 ⟨some 33,.ldl (.t 32) none,none⟩,
 ⟨some 34,.call 15 [(.t 33),(.c (.d (.int .i64 2)))],none⟩,
 ⟨some 35,.un .not (.t 34),none⟩,
 ⟨some 36,.mv (.t 35),none⟩,
 ⟨some 37,.fld (.t 4) 1,some (36,false)⟩,
 ⟨some 38,.ldl (.t 37) none,some (36,false)⟩,
 ⟨some 39,.call 16 [(.t 38),(.c (.d (.bool true)))],some (36,false)⟩,
 ⟨some 40,.un .not (.t 39),some (36,false)⟩,
 ⟨some 41,.pick (.t 36) (.c (.d (.bool true))) (.t 40),none⟩,
 ⟨some 42,.mv (.t 41),none⟩,
 ⟨some 43,.fld (.t 4) 2,some (42,false)⟩,
 ⟨some 44,.ldl (.t 43) none,some (42,false)⟩,
 ⟨some 45,.len (.t 44),some (42,false)⟩,
 ⟨some 46,.bin .lss (.t 45) (.c (.d (.int .i64 1))),some (42,false)⟩,
 ⟨some 47,.pick (.t 42) (.c (.d (.bool true))) (.t 46),none⟩,
 ⟨some 48,.mv (.t 47),none⟩,
 ⟨some 49,.fld (.t 4) 2,some (48,false)⟩,
 ⟨some 50,.ldl (.t 49) none,some (48,false)⟩,
 ⟨some 51,.len (.t 50),some (48,false)⟩,
 ⟨some 52,.bin .gtr (.t 51) (.c (.d (.int .i64 8))),some (48,false)⟩,
 ⟨some 53,.pick (.t 48) (.c (.d (.bool true))) (.t 52),none⟩] [1,3,4,53])
 (.cond (.t 53) (.seq (.reg [⟨some 2,.mv (.c (.d (.bool false))),none⟩] [2])
 .ret)
 .skip))
 (.seq (.reg [⟨some 5,.mv (.c (.d (.int .i64 0))),none⟩] [1,3,4,5])
 (.block 2 (.loop c_r4_Valid_L1))))))
 (.reg [⟨some 25,.mv (.t 3),none⟩,
 ⟨some 26,.bin .add (.t 25) (.c (.d (.int .i64 1))),none⟩,
 ⟨some 3,.mv (.t 26),none⟩] [1,3])))
def c_r4_Valid_L3 : C := (.seq (.seq (.reg [⟨some 101,.mv (.t 8),none⟩,
 ⟨some 102,.fld (.t 1) 1,none⟩,
 ⟨some 103,.ldl (.t 102) none,none⟩,
 ⟨some 104,.len (.t 103),none⟩,
 ⟨some 105,.bin .lss (.t 101) (.t 104),none⟩] [1,7,8,105])
 (.cond (.t 105) .skip
 (.exit 6)))
 (.seq (.block 7 (.seq (.reg [⟨some 108,.fld (.t 1) 1,none⟩,
 ⟨some 109,.ldl (.t 108) none,none⟩,
 ⟨some 110,.mv (.t 8),none⟩,
 ⟨some 111,.ix (.t 109) (.t 110) 8,none⟩,
 ⟨some 112,.ld (.t 111) (some 8),none⟩,
 ⟨some 9,.al [(.d (.str [])),.nils,(.d (.int .i64 0)),(.d (.str [])),(.d (.int .i64 0)),.nils,.nils,.nils] false,none⟩,
 ⟨none,.st (.t 9) (.t 112) 8,none⟩] [1,7,8,9])
 (.seq (.reg [⟨some 113,.fld (.t 9) 0,none⟩,
 ⟨some 114,.ldl (.t 113) none,none⟩,
 ⟨some 115,.call 15 [(.t 114),(.c (.d (.int .i64 1)))],none⟩,
 ⟨some 116,.un .not (.t 115),none⟩,
 ⟨some 117,.mv (.t 116),none⟩,
 ⟨some 118,.fld (.t 9) 1,some (117,false)⟩,
 ⟨some 119,.ldl (.t 118) none,some (117,false)⟩,
 ⟨some 120,.call 16 [(.t 119),(.c (.d (.bool true)))],some (117,false)⟩,
 ⟨some 121,.un .not (.t 120),some (117,false)⟩,
 ⟨some 122,.pick (.t 117) (.c (.d (.bool true))) (.t 121),none⟩,
 ⟨some 123,.mv (.t 122),none⟩,
 ⟨some 124,.fld (.t 9) 2,some (123,false)⟩,
 ⟨some 125,.ldl (.t 124) (some 6),some (123,false)⟩,
 ⟨some 126,.call 18 [(.t 125),(.c (.d (.int .i64 40))),(.t 7)],some (123,false)⟩,
 ⟨some 127,.un .not (.t 126),some (123,false)⟩,
 ⟨some 128,.pick (.t 123) (.c (.d (.bool true))) (.t 127),none⟩] [1,7,8,128])
 (.cond (.t 128) (.seq (.reg [⟨some 2,.mv (.c (.d (.bool false))),none⟩] [2])
 .ret)
 .skip))))
 (.reg [⟨some 106,.mv (.t 8),none⟩,
 ⟨some 107,.bin .add (.t 106) (.c (.d (.int .i64 1))),none⟩,
 ⟨some 8,.mv (.t 107),none⟩] [1,7,8])))
def c_r4_Valid : C := (.seq (.reg [⟨some 1,.box (.t 0) false,none⟩,
 ⟨some 2,.mv (.c (.d (.bool false))),none⟩] [1])
 (.seq (.seq (.reg [⟨some 10,.fld (.t 1) 0,none⟩,
 ⟨some 11,.ldl (.t 10) none,none⟩,
 ⟨some 12,.len (.t 11),none⟩,
 ⟨some 13,.bin .gtr (.t 12) (.c (.d (.int .i64 12))),none⟩,
 ⟨some 14,.mv (.t 13),none⟩,
 ⟨some 15,.fld (.t 1) 1,some (14,false)⟩,
 ⟨some 16,.ldl (.t 15) none,some (14,false)⟩,
 ⟨some 17,.len (.t 16),some (14,false)⟩,
 ⟨some 18,.bin .gtr (.t 17) (.c (.d (.int .i64 24))),some (14,false)⟩,
 ⟨some 19,.pick (.t 14) (.c (.d (.bool true))) (.t 18),none⟩] [1,19])
 (.cond (.t 19) (.seq (.reg [⟨some 2,.mv (.c (.d (.bool false))),none⟩] [2])
 .ret)
 .skip))
 (.seq (.seq (.reg [⟨some 3,.mv (.c (.d (.int .i64 0))),none⟩] [1,3])
 (.block 0 (.loop c_r4_Valid_L2)))
 (.seq (.reg [⟨some 7,.ex (.alt 3 [(.d (.int .i64 0))]) [],none⟩,
 ⟨none,.st (.t 7) (.c (.d (.int .i64 600))) 1,none⟩] [1,7])
 (.seq (.seq (.reg [⟨some 8,.mv (.c (.d (.int .i64 0))),none⟩] [1,7,8])
 (.block 6 (.loop c_r4_Valid_L3)))
 (.seq (.reg [⟨some 2,.mv (.c (.d (.bool true))),none⟩] [2])
 .ret))))))
noncomputable def x_r4_Valid : Cx := ⟨Try.prog,5,Try.f5,129,[7,300011,300016,300022,300028,300033,300038,300044,300050,300056,300062,300071,300081,300091,300103,300109,300114,300119,300125],[],[.t 2]⟩
theorem g_r4_Valid : Good x_r4_Valid := ⟨Try.func5,by kernel_rfl⟩
theorem rs_r4_Valid : x_r4_Valid.rs = [.t 2] := rfl
theorem i_r4_Valid (hl : args.length ≤ 129) (h : Run x_r4_Valid K [.code c_r4_Valid] (argF args) E σ) : ACalls Try.prog 5 args σ K :=
  acalls_of (cx := x_r4_Valid) (code := Try.f5.body.getD .skip) g_r4_Valid (by kernel_rfl) Try.ntmps5 hl (compC_rc x_r4_Valid _ (ctOf c_r4_Valid) _ [] (by kernel_rfl)) h
def c_syntax_Valid_L0 : C := (.seq (.reg [⟨some 22,.bin .lss (.t 21) (.t 20),none⟩] [1,19,20,21,22])
 (.seq (.cond (.t 22) .skip
 (.exit 0))
 (.seq (.block 1 (.seq (.reg [⟨some 23,.ix (.t 19) (.t 21) 3,none⟩,
 ⟨some 24,.ld (.t 23) (some 3),none⟩,
 ⟨some 4,.al [(.d (.str [])),.nils,.nils] false,none⟩,
 ⟨none,.st (.t 4) (.t 24) 3,none⟩] [1,4,19,20,21])
 (.seq (.reg [⟨some 25,.ldl (.t 4) (some 3),none⟩,
 ⟨some 26,.call 50 [(.t 25)],none⟩,
 ⟨some 27,.un .not (.t 26),none⟩] [1,19,20,21,27])
 (.cond (.t 27) (.seq (.reg [⟨some 2,.mv (.c (.d (.bool false))),none⟩] [2])
 .ret)
 .skip))))
 (.reg [⟨some 28,.bin .add (.t 21) (.c (.d (.int .i64 1))),none⟩,
 ⟨some 21,.mv (.t 28),none⟩] [1,19,20,21]))))
def c_syntax_Valid_L1 : C := (.seq (.reg [⟨some 35,.bin .lss (.t 34) (.t 33),none⟩] [5,32,33,34,35])
 (.seq (.cond (.t 35) .skip
 (.exit 2))
 (.seq (.block 3 (.seq (.reg [⟨some 36,.ix (.t 32) (.t 34) 8,none⟩,
 ⟨some 37,.ld (.t 36) (some 8),none⟩,
 ⟨some 7,.al [(.d (.str [])),.nils,(.d (.int .i64 0)),(.d (.str [])),(.d (.int .i64 0)),.nils,.nils,.nils] false,none⟩,
 ⟨none,.st (.t 7) (.t 37) 8,none⟩] [5,7,32,33,34])
 (.seq (.reg [⟨some 38,.fld (.t 7) 0,none⟩,
 ⟨some 39,.ldl (.t 38) none,none⟩,
 ⟨some 40,.call 51 [(.t 39)],none⟩,
 ⟨some 41,.un .not (.t 40),none⟩,
 ⟨some 42,.mv (.t 41),none⟩,
 ⟨some 43,.fld (.t 7) 1,some (42,false)⟩,
 ⟨some 44,.ldl (.t 43) none,some (42,false)⟩,
 ⟨some 45,.len (.t 44),some (42,false)⟩,
 ⟨some 46,.bin .gtr (.t 45) (.c (.d (.int .i64 6))),some (42,false)⟩,
 ⟨some 47,.pick (.t 42) (.c (.d (.bool true))) (.t 46),none⟩,
 ⟨some 48,.mv (.t 47),none⟩,
 ⟨some 49,.fld (.t 7) 1,some (48,false)⟩,
 ⟨some 50,.ldl (.t 49) none,some (48,false)⟩,
 ⟨some 51,.call 52 [(.t 50),(.c (.fn 51 [] []))],some (48,false)⟩,
 ⟨some 52,.un .not (.t 51),some (48,false)⟩,
 ⟨some 53,.pick (.t 48) (.c (.d (.bool true))) (.t 52),none⟩,
 ⟨some 54,.mv (.t 53),none⟩,
 ⟨some 55,.mv (.t 5),some (54,false)⟩,
 ⟨some 56,.fld (.t 7) 2,some (54,false)⟩,
 ⟨some 57,.ldl (.t 56) (some 6),some (54,false)⟩,
 ⟨some 58,.call 53 [(.t 55),(.t 57),(.c (.d (.int .i64 1)))],some (54,false)⟩,
 ⟨some 59,.un .not (.t 58),some (54,false)⟩,
 ⟨some 60,.pick (.t 54) (.c (.d (.bool true))) (.t 59),none⟩] [5,32,33,34,60])
 (.cond (.t 60) (.seq (.reg [⟨some 2,.mv (.c (.d (.bool false))),none⟩] [2])
 .ret)
 .skip))))
 (.reg [⟨some 61,.bin .add (.t 34) (.c (.d (.int .i64 1))),none⟩,
 ⟨some 34,.mv (.t 61),none⟩] [5,32,33,34]))))
def c_syntax_Valid : C := (.seq (.reg [⟨some 1,.box (.t 0) false,none⟩,
 ⟨some 2,.mv (.c (.d (.bool false))),none⟩] [1])
 (.seq (.seq (.reg [⟨some 8,.fld (.t 1) 0,none⟩,
 ⟨some 9,.ldl (.t 8) none,none⟩,
 ⟨some 10,.len (.t 9),none⟩,
 ⟨some 11,.bin .gtr (.t 10) (.c (.d (.int .i64 12))),none⟩,
 ⟨some 12,.mv (.t 11),none⟩,
 ⟨some 13,.fld (.t 1) 1,some (12,false)⟩,
 ⟨some 14,.ldl (.t 13) none,some (12,false)⟩,
 ⟨some 15,.len (.t 14),some (12,false)⟩,
 ⟨some 16,.bin .gtr (.t 15) (.c (.d (.int .i64 24))),some (12,false)⟩,
 ⟨some 17,.pick (.t 12) (.c (.d (.bool true))) (.t 16),none⟩] [1,17])
 (.cond (.t 17) (.seq (.reg [⟨some 2,.mv (.c (.d (.bool false))),none⟩] [2])
 .ret)
 .skip))
 (.seq (.seq (.reg [⟨some 18,.fld (.t 1) 0,none⟩,
 ⟨some 19,.ldl (.t 18) none,none⟩,
 ⟨some 20,.len (.t 19),none⟩,
 ⟨some 21,.mv (.c (.d (.int .i64 0))),none⟩] [1,19,20,21])
 (.block 0 (.loop c_syntax_Valid_L0)))
 (.seq (.reg [⟨some 29,.bld [(.d (.int .i64 0))] [],none⟩,
 ⟨some 30,.box (.t 29) true,none⟩,
 ⟨some 5,.mv (.t 30),none⟩] [1,5])
 (.seq (.seq (.reg [⟨some 31,.fld (.t 1) 1,none⟩,
 ⟨some 32,.ldl (.t 31) none,none⟩,
 ⟨some 33,.len (.t 32),none⟩,
 ⟨some 34,.mv (.c (.d (.int .i64 0))),none⟩] [5,32,33,34])
 (.block 2 (.loop c_syntax_Valid_L1)))
 (.seq (.reg [⟨some 2,.mv (.c (.d (.bool true))),none⟩] [2])
 .ret))))))
noncomputable def x_syntax_Valid : Cx := ⟨Try.prog,35,Try.f35,62,[30,300009,300014,300019,300025,300032,300039,300044,300050,300057],[],[.t 2]⟩
theorem g_syntax_Valid : Good x_syntax_Valid := ⟨Try.func35,by kernel_rfl⟩
theorem rs_syntax_Valid : x_syntax_Valid.rs = [.t 2] := rfl
theorem i_syntax_Valid (hl : args.length ≤ 62) (h : Run x_syntax_Valid K [.code c_syntax_Valid] (argF args) E σ) : ACalls Try.prog 35 args σ K :=
  acalls_of (cx := x_syntax_Valid) (code := Try.f35.body.getD .skip) g_syntax_Valid (by kernel_rfl) Try.ntmps35 hl (compC_rc x_syntax_Valid _ (ctOf c_syntax_Valid) _ [] (by kernel_rfl)) h
def c_r4_single : C := (.seq (.reg [⟨some 4,.mv (.c (.d (.bool false))),none⟩] [0,1])
 (.seq (.reg [⟨some 9,.mv (.t 0),none⟩,
 ⟨some 10,.call 33 [(.t 9)],none⟩,
 ⟨some 8,.mv (.t 10),none⟩,
 ⟨some 11,.ext (.t 8) 0,none⟩,
 ⟨some 12,.ext (.t 8) 1,none⟩,
 ⟨some 13,.ext (.t 8) 2,none⟩,
 ⟨some 5,.mv (.t 11),none⟩,
 ⟨some 6,.mv (.t 12),none⟩,
 ⟨some 7,.mv (.t 13),none⟩] [0,1,5,7])
 (.seq (.reg [⟨some 14,.mv (.t 7),none⟩,
 ⟨some 15,.bin .eql (.t 14) (.c (.d (.int .i64 0))),none⟩,
 ⟨some 16,.mv (.t 15),none⟩,
 ⟨some 17,.mv (.t 5),some (16,true)⟩,
 ⟨some 18,.len (.t 17),some (16,true)⟩,
 ⟨some 19,.bin .eql (.t 18) (.c (.d (.int .i64 2))),some (16,true)⟩,
 ⟨some 20,.pick (.t 16) (.t 19) (.c (.d (.bool false))),none⟩,
 ⟨some 21,.mv (.t 20),none⟩,
 ⟨some 22,.mv (.t 5),some (21,true)⟩,
 ⟨some 23,.ix (.t 22) (.c (.d (.int .i64 0))) 3,some (21,true)⟩,
 ⟨some 24,.fld (.t 23) 0,some (21,true)⟩,
 ⟨some 25,.ld (.t 24) none,some (21,true)⟩,
 ⟨some 26,.mv (.t 1),some (21,true)⟩,
 ⟨some 27,.bin .eql (.t 25) (.t 26),some (21,true)⟩,
 ⟨some 28,.pick (.t 21) (.t 27) (.c (.d (.bool false))),none⟩,
 ⟨some 29,.mv (.t 28),none⟩,
 ⟨some 30,.mv (.t 5),some (29,true)⟩,
 ⟨some 31,.ix (.t 30) (.c (.d (.int .i64 0))) 3,some (29,true)⟩,
 ⟨some 32,.fld (.t 31) 1,some (29,true)⟩,
 ⟨some 33,.ld (.t 32) none,some (29,true)⟩,
 ⟨some 34,.mv (.t 0),some (29,true)⟩,
 ⟨some 35,.bin .eql (.t 33) (.t 34),some (29,true)⟩,
 ⟨some 36,.pick (.t 29) (.t 35) (.c (.d (.bool false))),none⟩,
 ⟨some 4,.mv (.t 36),none⟩] [4])
 .ret)))
noncomputable def x_r4_single : Cx := ⟨Try.prog,15,Try.f15,37,[],[],[.t 4]⟩
theorem g_r4_single : Good x_r4_single := ⟨Try.func15,by kernel_rfl⟩
theorem rs_r4_single : x_r4_single.rs = [.t 4] := rfl
theorem i_r4_single (hl : args.length ≤ 37) (h : Run x_r4_single K [.code c_r4_single] (argF args) E σ) : ACalls Try.prog 15 args σ K :=
  acalls_of (cx := x_r4_single) (code := Try.f15.body.getD .skip) g_r4_single (by kernel_rfl) Try.ntmps15 hl (compC_rc x_r4_single _ (ctOf c_r4_single) _ [] (by kernel_rfl)) h
def c_r4_binds_L0 : C := (.seq (.seq (.reg [⟨some 9,.mv (.t 5),none⟩,
 ⟨some 10,.mv (.t 0),none⟩,
 ⟨some 11,.len (.t 10),none⟩,
 ⟨some 12,.bin .lss (.t 9) (.t 11),none⟩] [0,1,5,12])
 (.cond (.t 12) .skip
 (.exit 0)))
 (.seq (.block 1 (.seq (.reg [⟨some 15,.mv (.t 0),none⟩,
 ⟨some 16,.mv (.t 5),none⟩,
 ⟨some 17,.ix (.t 15) (.t 16) 1,none⟩,
 ⟨some 18,.ld (.t 17) none,none⟩,
 ⟨some 19,.call 15 [(.t 18),(.c (.d (.int .i64 1)))],none⟩,
 ⟨some 20,.mv (.t 19),none⟩,
 ⟨some 21,.mv (.t 0),some (20,false)⟩,
 ⟨some 22,.mv (.t 5),some (20,false)⟩,
 ⟨some 23,.ix (.t 21) (.t 22) 1,some (20,false)⟩,
 ⟨some 24,.ld (.t 23) none,some (20,false)⟩,
 ⟨some 25,.bin .eql (.t 24) (.c (.d (.str []))),some (20,false)⟩,
 ⟨some 26,.mv (.t 25),some (20,false)⟩,
 ⟨some 27,.mv (.t 1),some (26,true)⟩,
 ⟨some 28,.un .not (.t 27),some (26,true)⟩,
 ⟨some 29,.pick (.t 26) (.t 28) (.c (.d (.bool false))),some (20,false)⟩,
 ⟨some 30,.pick (.t 20) (.c (.d (.bool true))) (.t 29),none⟩,
 ⟨some 31,.un .not (.t 30),none⟩] [0,1,5,31])
 (.cond (.t 31) (.seq (.reg [⟨some 4,.mv (.c (.d (.bool false))),none⟩] [4])
 .ret)
 .skip)))
 (.reg [⟨some 13,.mv (.t 5),none⟩,
 ⟨some 14,.bin .add (.t 13) (.c (.d (.int .i64 1))),none⟩,
 ⟨some 5,.mv (.t 14),none⟩] [0,1,5])))
def c_r4_binds : C := (.seq (.reg [⟨some 4,.mv (.c (.d (.bool false))),none⟩] [0,1])
 (.seq (.seq (.reg [⟨some 6,.mv (.t 0),none⟩,
 ⟨some 7,.len (.t 6),none⟩,
 ⟨some 8,.bin .gtr (.t 7) (.c (.d (.int .i64 6))),none⟩] [0,1,8])
 (.cond (.t 8) (.seq (.reg [⟨some 4,.mv (.c (.d (.bool false))),none⟩] [4])
 .ret)
 .skip))
 (.seq (.seq (.reg [⟨some 5,.mv (.c (.d (.int .i64 0))),none⟩] [0,1,5])
 (.block 0 (.loop c_r4_binds_L0)))
 (.seq (.reg [⟨some 4,.mv (.c (.d (.bool true))),none⟩] [4])
 .ret))))
noncomputable def x_r4_binds : Cx := ⟨Try.prog,16,Try.f16,32,[],[],[.t 4]⟩
theorem g_r4_binds : Good x_r4_binds := ⟨Try.func16,by kernel_rfl⟩
theorem rs_r4_binds : x_r4_binds.rs = [.t 4] := rfl
theorem i_r4_binds (hl : args.length ≤ 32) (h : Run x_r4_binds K [.code c_r4_binds] (argF args) E σ) : ACalls Try.prog 16 args σ K :=
  acalls_of (cx := x_r4_binds) (code := Try.f16.body.getD .skip) g_r4_binds (by kernel_rfl) Try.ntmps16 hl (compC_rc x_r4_binds _ (ctOf c_r4_binds) _ [] (by kernel_rfl)) h
def c_r4_validType_L0 : C := (.seq (.seq (.reg [⟨some 80,.mv (.t 6),none⟩,
 ⟨some 81,.mv (.t 5),none⟩,
 ⟨some 82,.bin .lss (.t 80) (.t 81),none⟩] [1,2,5,6,82])
 (.cond (.t 82) .skip
 (.exit 1)))
 (.seq (.block 2 (.seq (.reg [⟨some 85,.fld (.t 2) 2,none⟩,
 ⟨some 86,.ldl (.t 85) none,none⟩,
 ⟨some 87,.mv (.t 6),none⟩,
 ⟨some 88,.ix (.t 86) (.t 87) 3,none⟩,
 ⟨some 89,.ld (.t 88) (some 3),none⟩,
 ⟨some 90,.mv (.t 1),none⟩,
 ⟨some 91,.bin .sub (.t 90) (.c (.d (.int .i64 1))),none⟩,
 ⟨some 92,.call 17 [(.t 89),(.t 91)],none⟩,
 ⟨some 93,.un .not (.t 92),none⟩] [1,2,5,6,93])
 (.cond (.t 93) (.seq (.reg [⟨some 4,.mv (.c (.d (.bool false))),none⟩] [4])
 .ret)
 .skip)))
 (.reg [⟨some 83,.mv (.t 6),none⟩,
 ⟨some 84,.bin .add (.t 83) (.c (.d (.int .i64 1))),none⟩,
 ⟨some 6,.mv (.t 84),none⟩] [1,2,5,6])))
def c_r4_validType : C := (.seq (.reg [⟨some 2,.box (.t 0) false,none⟩,
 ⟨some 4,.mv (.c (.d (.bool false))),none⟩] [1,2])
 (.seq (.seq (.reg [⟨some 7,.mv (.t 1),none⟩,
 ⟨some 8,.bin .eql (.t 7) (.c (.d (.int .i64 0))),none⟩] [1,2,8])
 (.cond (.t 8) (.seq (.reg [⟨some 4,.mv (.c (.d (.bool false))),none⟩] [4])
 .ret)
 .skip))
 (.seq (.reg [⟨some 9,.fld (.t 2) 2,none⟩,
 ⟨some 10,.ldl (.t 9) none,none⟩,
 ⟨some 11,.len (.t 10),none⟩,
 ⟨some 5,.mv (.t 11),none⟩] [1,2,5])
 (.seq (.seq (.reg [⟨some 12,.fld (.t 2) 0,none⟩,
 ⟨some 13,.ldl (.t 12) none,none⟩] [1,2,5,13])
 (.block 0 (.seq (.seq (.reg [⟨some 15,.bin .eql (.t 13) (.c (.d (.int .i64 1))),none⟩,
 ⟨some 14,.mv (.t 15),none⟩] [1,2,5,13,14])
 (.cond (.t 14) .skip
 (.seq (.reg [⟨some 16,.bin .eql (.t 13) (.c (.d (.int .i64 2))),none⟩,
 ⟨some 14,.mv (.t 16),none⟩] [1,2,5,13,14])
 (.cond (.t 14) .skip
 (.reg [⟨some 17,.bin .eql (.t 13) (.c (.d (.int .i64 3))),none⟩,
 ⟨some 14,.mv (.t 17),none⟩] [1,2,5,13,14])))))
 (.cond (.t 14) (.seq (.reg [⟨some 18,.fld (.t 2) 1,none⟩,
 ⟨some 19,.ldl (.t 18) none,none⟩,
 ⟨some 20,.bin .eql (.t 19) (.c (.d (.str []))),none⟩,
 ⟨some 21,.mv (.t 20),none⟩,
 ⟨some 22,.mv (.t 5),some (21,true)⟩,
 ⟨some 23,.bin .eql (.t 22) (.c (.d (.int .i64 0))),some (21,true)⟩,
 ⟨some 24,.pick (.t 21) (.t 23) (.c (.d (.bool false))),none⟩,
 ⟨some 4,.mv (.t 24),none⟩] [4])
 .ret)
 (.seq (.reg [⟨some 26,.bin .eql (.t 13) (.c (.d (.int .i64 4))),none⟩,
 ⟨some 25,.mv (.t 26),none⟩] [1,2,5,13,25])
 (.cond (.t 25) (.seq (.reg [⟨some 27,.fld (.t 2) 1,none⟩,
 ⟨some 28,.ldl (.t 27) none,none⟩,
 ⟨some 29,.call 15 [(.t 28),(.c (.d (.int .i64 1)))],none⟩,
 ⟨some 30,.mv (.t 29),none⟩,
 ⟨some 31,.mv (.t 5),some (30,true)⟩,
 ⟨some 32,.bin .eql (.t 31) (.c (.d (.int .i64 0))),some (30,true)⟩,
 ⟨some 33,.pick (.t 30) (.t 32) (.c (.d (.bool false))),none⟩,
 ⟨some 4,.mv (.t 33),none⟩] [4])
 .ret)
 (.seq (.reg [⟨some 35,.bin .eql (.t 13) (.c (.d (.int .i64 5))),none⟩,
 ⟨some 34,.mv (.t 35),none⟩] [1,2,5,13,34])
 (.cond (.t 34) (.seq (.reg [⟨some 36,.fld (.t 2) 1,none⟩,
 ⟨some 37,.ldl (.t 36) none,none⟩,
 ⟨some 38,.call 15 [(.t 37),(.c (.d (.int .i64 2)))],none⟩,
 ⟨some 39,.un .not (.t 38),none⟩,
 ⟨some 40,.mv (.t 39),none⟩,
 ⟨some 41,.mv (.t 5),some (40,false)⟩,
 ⟨some 42,.bin .gtr (.t 41) (.c (.d (.int .i64 6))),some (40,false)⟩,
 ⟨some 43,.pick (.t 40) (.c (.d (.bool true))) (.t 42),none⟩] [1,2,5,43])
 (.cond (.t 43) (.seq (.reg [⟨some 4,.mv (.c (.d (.bool false))),none⟩] [4])
 .ret)
 .skip))
 (.seq (.reg [⟨some 45,.bin .eql (.t 13) (.c (.d (.int .i64 6))),none⟩,
 ⟨some 44,.mv (.t 45),none⟩] [1,2,5,13,44])
 (.cond (.t 44) (.seq (.reg [⟨some 46,.fld (.t 2) 1,none⟩,
 ⟨some 47,.ldl (.t 46) none,none⟩,
 ⟨some 48,.bin .neq (.t 47) (.c (.d (.str []))),none⟩,
 ⟨some 49,.mv (.t 48),none⟩,
 ⟨some 50,.mv (.t 5),some (49,false)⟩,
 ⟨some 51,.bin .lss (.t 50) (.c (.d (.int .i64 2))),some (49,false)⟩,
 ⟨some 52,.pick (.t 49) (.c (.d (.bool true))) (.t 51),none⟩,
 ⟨some 53,.mv (.t 52),none⟩,
 ⟨some 54,.mv (.t 5),some (53,false)⟩,
 ⟨some 55,.bin .gtr (.t 54) (.c (.d (.int .i64 6))),some (53,false)⟩,
 ⟨some 56,.pick (.t 53) (.c (.d (.bool true))) (.t 55),none⟩] [1,2,5,56])
 (.cond (.t 56) (.seq (.reg [⟨some 4,.mv (.c (.d (.bool false))),none⟩] [4])
 .ret)
 .skip))
 (.seq (.seq (.reg [⟨some 58,.bin .eql (.t 13) (.c (.d (.int .i64 7))),none⟩,
 ⟨some 57,.mv (.t 58),none⟩] [1,2,5,13,57])
 (.cond (.t 57) .skip
 (.reg [⟨some 59,.bin .eql (.t 13) (.c (.d (.int .i64 8))),none⟩,
 ⟨some 57,.mv (.t 59),none⟩] [1,2,5,13,57])))
 (.cond (.t 57) (.seq (.reg [⟨some 60,.fld (.t 2) 1,none⟩,
 ⟨some 61,.ldl (.t 60) none,none⟩,
 ⟨some 62,.bin .neq (.t 61) (.c (.d (.str []))),none⟩,
 ⟨some 63,.mv (.t 62),none⟩,
 ⟨some 64,.mv (.t 5),some (63,false)⟩,
 ⟨some 65,.bin .neq (.t 64) (.c (.d (.int .i64 1))),some (63,false)⟩,
 ⟨some 66,.pick (.t 63) (.c (.d (.bool true))) (.t 65),none⟩] [1,2,5,66])
 (.cond (.t 66) (.seq (.reg [⟨some 4,.mv (.c (.d (.bool false))),none⟩] [4])
 .ret)
 .skip))
 (.seq (.reg [⟨some 68,.bin .eql (.t 13) (.c (.d (.int .i64 9))),none⟩,
 ⟨some 67,.mv (.t 68),none⟩] [1,2,5,67])
 (.cond (.t 67) (.seq (.reg [⟨some 69,.fld (.t 2) 1,none⟩,
 ⟨some 70,.ldl (.t 69) none,none⟩,
 ⟨some 71,.bin .neq (.t 70) (.c (.d (.str []))),none⟩,
 ⟨some 72,.mv (.t 71),none⟩,
 ⟨some 73,.mv (.t 5),some (72,false)⟩,
 ⟨some 74,.bin .lss (.t 73) (.c (.d (.int .i64 1))),some (72,false)⟩,
 ⟨some 75,.pick (.t 72) (.c (.d (.bool true))) (.t 74),none⟩,
 ⟨some 76,.mv (.t 75),none⟩,
 ⟨some 77,.mv (.t 5),some (76,false)⟩,
 ⟨some 78,.bin .gtr (.t 77) (.c (.d (.int .i64 7))),some (76,false)⟩,
 ⟨some 79,.pick (.t 76) (.c (.d (.bool true))) (.t 78),none⟩] [1,2,5,79])
 (.cond (.t 79) (.seq (.reg [⟨some 4,.mv (.c (.d (.bool false))),none⟩] [4])
 .ret)
 .skip))
 (.seq (.reg [⟨some 4,.mv (.c (.d (.bool false))),none⟩] [4])
 .ret)))))))))))))))
 (.seq (.seq (.reg [⟨some 6,.mv (.c (.d (.int .i64 0))),none⟩] [1,2,5,6])
 (.block 1 (.loop c_r4_validType_L0)))
 (.seq (.reg [⟨some 4,.mv (.c (.d (.bool true))),none⟩] [4])
 .ret))))))
noncomputable def x_r4_validType : Cx := ⟨Try.prog,17,Try.f17,94,[300010,300013,300019,300028,300037,300047,300061,300070,300086],[],[.t 4]⟩
theorem g_r4_validType : Good x_r4_validType := ⟨Try.func17,by kernel_rfl⟩
theorem rs_r4_validType : x_r4_validType.rs = [.t 4] := rfl
theorem i_r4_validType (hl : args.length ≤ 94) (h : Run x_r4_validType K [.code c_r4_validType] (argF args) E σ) : ACalls Try.prog 17 args σ K :=
  acalls_of (cx := x_r4_validType) (code := Try.f17.body.getD .skip) g_r4_validType (by kernel_rfl) Try.ntmps17 hl (compC_rc x_r4_validType _ (ctOf c_r4_validType) _ [] (by kernel_rfl)) h
def c_r4_validExpr_L0 : C := (.seq (.seq (.reg [⟨some 202,.mv (.t 13),none⟩,
 ⟨some 203,.fld (.t 3) 4,none⟩,
 ⟨some 204,.ldl (.t 203) none,none⟩,
 ⟨some 205,.len (.t 204),none⟩,
 ⟨some 206,.bin .lss (.t 202) (.t 205),none⟩] [1,2,3,13,206])
 (.cond (.t 206) .skip
 (.exit 1)))
 (.seq (.block 2 (.seq (.reg [⟨some 209,.fld (.t 3) 4,none⟩,
 ⟨some 210,.ldl (.t 209) none,none⟩,
 ⟨some 211,.mv (.t 13),none⟩,
 ⟨some 212,.ix (.t 210) (.t 211) 6,none⟩,
 ⟨some 213,.ld (.t 212) (some 6),none⟩,
 ⟨some 214,.mv (.t 1),none⟩,
 ⟨some 215,.bin .sub (.t 214) (.c (.d (.int .i64 1))),none⟩,
 ⟨some 216,.mv (.t 2),none⟩,
 ⟨some 217,.call 18 [(.t 213),(.t 215),(.t 216)],none⟩,
 ⟨some 218,.un .not (.t 217),none⟩] [1,2,3,13,218])
 (.cond (.t 218) (.seq (.reg [⟨some 6,.mv (.c (.d (.bool false))),none⟩] [6])
 .ret)
 .skip)))
 (.reg [⟨some 207,.mv (.t 13),none⟩,
 ⟨some 208,.bin .add (.t 207) (.c (.d (.int .i64 1))),none⟩,
 ⟨some 13,.mv (.t 208),none⟩] [1,2,3,13])))
def c_r4_validExpr_L1 : C := (.seq (.seq (.reg [⟨some 219,.mv (.t 14),none⟩,
 ⟨some 220,.fld (.t 3) 5,none⟩,
 ⟨some 221,.ldl (.t 220) none,none⟩,
 ⟨some 222,.len (.t 221),none⟩,
 ⟨some 223,.bin .lss (.t 219) (.t 222),none⟩] [1,2,3,14,223])
 (.cond (.t 223) .skip
 (.exit 3)))
 (.seq (.block 4 (.seq (.reg [⟨some 226,.fld (.t 3) 5,none⟩,
 ⟨some 227,.ldl (.t 226) none,none⟩,
 ⟨some 228,.mv (.t 14),none⟩,
 ⟨some 229,.ix (.t 227) (.t 228) 8,none⟩,
 ⟨some 230,.ld (.t 229) (some 8),none⟩,
 ⟨some 15,.al [(.d (.str [])),.nils,(.d (.int .i64 0)),(.d (.str [])),(.d (.int .i64 0)),.nils,.nils,.nils] false,none⟩,
 ⟨none,.st (.t 15) (.t 230) 8,none⟩] [1,2,3,14,15])
 (.seq (.reg [⟨some 231,.fld (.t 15) 0,none⟩,
 ⟨some 232,.ldl (.t 231) none,none⟩,
 ⟨some 233,.call 15 [(.t 232),(.c (.d (.int .i64 2)))],none⟩,
 ⟨some 234,.un .not (.t 233),none⟩,
 ⟨some 235,.mv (.t 234),none⟩,
 ⟨some 236,.fld (.t 15) 1,some (235,false)⟩,
 ⟨some 237,.ldl (.t 236) none,some (235,false)⟩,
 ⟨some 238,.call 16 [(.t 237),(.c (.d (.bool false)))],some (235,false)⟩,
 ⟨some 239,.un .not (.t 238),some (235,false)⟩,
 ⟨some 240,.pick (.t 235) (.c (.d (.bool true))) (.t 239),none⟩,
 ⟨some 241,.mv (.t 240),none⟩,
 ⟨some 242,.fld (.t 15) 2,some (241,false)⟩,
 ⟨some 243,.ldl (.t 242) (some 6),some (241,false)⟩,
 ⟨some 244,.mv (.t 1),some (241,false)⟩,
 ⟨some 245,.bin .sub (.t 244) (.c (.d (.int .i64 1))),some (241,false)⟩,
 ⟨some 246,.mv (.t 2),some (241,false)⟩,
 ⟨some 247,.call 18 [(.t 243),(.t 245),(.t 246)],some (241,false)⟩,
 ⟨some 248,.un .not (.t 247),some (241,false)⟩,
 ⟨some 249,.pick (.t 241) (.c (.d (.bool true))) (.t 248),none⟩] [1,2,3,14,249])
 (.cond (.t 249) (.seq (.reg [⟨some 6,.mv (.c (.d (.bool false))),none⟩] [6])
 .ret)
 .skip))))
 (.reg [⟨some 224,.mv (.t 14),none⟩,
 ⟨some 225,.bin .add (.t 224) (.c (.d (.int .i64 1))),none⟩,
 ⟨some 14,.mv (.t 225),none⟩] [1,2,3,14])))
def c_r4_validExpr : C := (.seq (.reg [⟨some 3,.box (.t 0) false,none⟩,
 ⟨some 6,.mv (.c (.d (.bool false))),none⟩] [1,2,3])
 (.seq (.seq (.reg [⟨some 16,.mv (.t 1),none⟩,
 ⟨some 17,.bin .eql (.t 16) (.c (.d (.int .i64 0))),none⟩,
 ⟨some 18,.mv (.t 17),none⟩,
 ⟨some 19,.mv (.t 2),some (18,false)⟩,
 ⟨some 20,.nck (.t 19),some (18,false)⟩,
 ⟨some 21,.ld (.t 20) none,some (18,false)⟩,
 ⟨some 22,.bin .eql (.t 21) (.c (.d (.int .i64 0))),some (18,false)⟩,
 ⟨some 23,.pick (.t 18) (.c (.d (.bool true))) (.t 22),none⟩] [1,2,3,23])
 (.cond (.t 23) (.seq (.reg [⟨some 6,.mv (.c (.d (.bool false))),none⟩] [6])
 .ret)
 .skip))
 (.seq (.reg [⟨some 24,.mv (.t 2),none⟩,
 ⟨some 25,.nck (.t 24),none⟩,
 ⟨some 26,.ld (.t 25) none,none⟩,
 ⟨some 27,.bin .sub (.t 26) (.c (.d (.int .i64 1))),none⟩,
 ⟨some 28,.nck (.t 24),none⟩,
 ⟨none,.st (.t 28) (.t 27) 1,none⟩] [1,2,3])
 (.seq (.reg [⟨some 7,.mv (.c (.d (.bool false))),none⟩,
 ⟨some 8,.mv (.c (.d (.bool false))),none⟩,
 ⟨some 9,.mv (.c (.d (.bool false))),none⟩,
 ⟨some 10,.mv (.c (.d (.bool false))),none⟩] [1,2,3,7,8,9,10])
 (.seq (.reg [⟨some 11,.mv (.c (.d (.int .i64 0))),none⟩,
 ⟨some 12,.mv (.c (.d (.int .i64 0))),none⟩] [1,2,3,7,8,9,10,11,12])
 (.seq (.seq (.reg [⟨some 29,.fld (.t 3) 0,none⟩,
 ⟨some 30,.ldl (.t 29) none,none⟩] [1,2,3,7,8,9,10,11,12,30])
 (.block 0 (.seq (.reg [⟨some 32,.bin .eql (.t 30) (.c (.d (.int .i64 1))),none⟩,
 ⟨some 31,.mv (.t 32),none⟩] [1,2,3,7,8,9,10,11,12,30,31])
 (.cond (.t 31) .skip
 (.seq (.reg [⟨some 34,.bin .eql (.t 30) (.c (.d (.int .i64 2))),none⟩,
 ⟨some 33,.mv (.t 34),none⟩] [1,2,3,7,8,9,10,11,12,30,33])
 (.cond (.t 33) (.reg [⟨some 35,.fld (.t 3) 2,none⟩,
 ⟨some 36,.ldl (.t 35) none,none⟩,
 ⟨some 37,.bin .eql (.t 36) (.c (.d (.int .i64 0))),none⟩,
 ⟨some 38,.mv (.t 37),none⟩,
 ⟨some 39,.fld (.t 3) 2,some (38,false)⟩,
 ⟨some 40,.ldl (.t 39) none,some (38,false)⟩,
 ⟨some 41,.bin .eql (.t 40) (.c (.d (.int .i64 1))),some (38,false)⟩,
 ⟨some 42,.pick (.t 38) (.c (.d (.bool true))) (.t 41),none⟩,
 ⟨some 8,.mv (.t 42),none⟩] [1,2,3,7,8,9,10,11,12])
 (.seq (.reg [⟨some 44,.bin .eql (.t 30) (.c (.d (.int .i64 3))),none⟩,
 ⟨some 43,.mv (.t 44),none⟩] [1,2,3,7,8,9,10,11,12,30,43])
 (.cond (.t 43) (.reg [⟨some 45,.fld (.t 3) 2,none⟩,
 ⟨some 46,.ldl (.t 45) none,none⟩,
 ⟨some 47,.bin .geq (.t 46) (.c (.d (.int .i64 (-1000000)))),none⟩,
 ⟨some 48,.mv (.t 47),none⟩,
 ⟨some 49,.fld (.t 3) 2,some (48,true)⟩,
 ⟨some 50,.ldl (.t 49) none,some (48,true)⟩,
 ⟨some 51,.bin .leq (.t 50) (.c (.d (.int .i64 1000000))),some (48,true)⟩,
 ⟨some 52,.pick (.t 48) (.t 51) (.c (.d (.bool false))),none⟩,
 ⟨some 8,.mv (.t 52),none⟩] [1,2,3,7,8,9,10,11,12])
 (.seq (.reg [⟨some 54,.bin .eql (.t 30) (.c (.d (.int .i64 4))),none⟩,
 ⟨some 53,.mv (.t 54),none⟩] [1,2,3,7,8,9,10,11,12,30,53])
 (.cond (.t 53) (.seq (.reg [⟨some 55,.fld (.t 3) 1,none⟩,
 ⟨some 56,.ldl (.t 55) none,none⟩,
 ⟨some 57,.call 15 [(.t 56),(.c (.d (.int .i64 1)))],none⟩,
 ⟨some 7,.mv (.t 57),none⟩] [1,2,3,7,8,9,10,11,12])
 (.seq (.reg [⟨some 58,.mv (.t 7),none⟩,
 ⟨some 59,.un .not (.t 58),none⟩] [1,2,3,7,8,9,10,11,12,59])
 (.cond (.t 59) (.seq (.reg [⟨some 6,.mv (.c (.d (.bool false))),none⟩] [6])
 .ret)
 .skip)))
 (.seq (.reg [⟨some 61,.bin .eql (.t 30) (.c (.d (.int .i64 5))),none⟩,
 ⟨some 60,.mv (.t 61),none⟩] [1,2,3,7,8,9,10,11,12,30,60])
 (.cond (.t 60) (.reg [⟨some 11,.mv (.c (.d (.int .i64 2))),none⟩,
 ⟨some 12,.mv (.c (.d (.int .i64 6))),none⟩] [1,2,3,7,8,9,10,11,12])
 (.seq (.reg [⟨some 63,.bin .eql (.t 30) (.c (.d (.int .i64 6))),none⟩,
 ⟨some 62,.mv (.t 63),none⟩] [1,2,3,7,8,9,10,11,12,30,62])
 (.cond (.t 62) (.seq (.reg [⟨some 64,.fld (.t 3) 1,none⟩,
 ⟨some 65,.ldl (.t 64) none,none⟩,
 ⟨some 66,.call 15 [(.t 65),(.c (.d (.int .i64 2)))],none⟩,
 ⟨some 7,.mv (.t 66),none⟩] [1,2,3,7,8,9,10,11])
 (.seq (.seq (.reg [⟨some 67,.mv (.t 7),none⟩,
 ⟨some 68,.un .not (.t 67),none⟩] [1,2,3,7,8,9,10,11,68])
 (.cond (.t 68) (.seq (.reg [⟨some 6,.mv (.c (.d (.bool false))),none⟩] [6])
 .ret)
 .skip))
 (.reg [⟨some 12,.mv (.c (.d (.int .i64 6))),none⟩] [1,2,3,7,8,9,10,11,12])))
 (.seq (.seq (.reg [⟨some 70,.bin .eql (.t 30) (.c (.d (.int .i64 7))),none⟩,
 ⟨some 69,.mv (.t 70),none⟩] [1,2,3,7,8,9,10,11,12,30,69])
 (.cond (.t 69) .skip
 (.reg [⟨some 71,.bin .eql (.t 30) (.c (.d (.int .i64 17))),none⟩,
 ⟨some 69,.mv (.t 71),none⟩] [1,2,3,7,8,9,10,11,12,30,69])))
 (.cond (.t 69) (.seq (.reg [⟨some 72,.fld (.t 3) 1,none⟩,
 ⟨some 73,.ldl (.t 72) none,none⟩,
 ⟨some 74,.bin .eql (.t 73) (.c (.d (.str []))),none⟩,
 ⟨some 75,.mv (.t 74),none⟩,
 ⟨some 76,.fld (.t 3) 1,some (75,false)⟩,
 ⟨some 77,.ldl (.t 76) none,some (75,false)⟩,
 ⟨some 78,.call 15 [(.t 77),(.c (.d (.int .i64 1)))],some (75,false)⟩,
 ⟨some 79,.pick (.t 75) (.c (.d (.bool true))) (.t 78),none⟩,
 ⟨some 7,.mv (.t 79),none⟩] [1,2,3,7,8,9,10])
 (.reg [⟨some 11,.mv (.c (.d (.int .i64 2))),none⟩,
 ⟨some 12,.mv (.c (.d (.int .i64 2))),none⟩] [1,2,3,7,8,9,10,11,12]))
 (.seq (.reg [⟨some 81,.bin .eql (.t 30) (.c (.d (.int .i64 8))),none⟩,
 ⟨some 80,.mv (.t 81),none⟩] [1,2,3,7,8,9,10,11,12,30,80])
 (.cond (.t 80) (.seq (.reg [⟨some 82,.fld (.t 3) 3,none⟩,
 ⟨some 83,.ldl (.t 82) none,none⟩,
 ⟨some 84,.len (.t 83),none⟩,
 ⟨some 85,.bin .geq (.t 84) (.c (.d (.int .i64 2))),none⟩,
 ⟨some 86,.mv (.t 85),none⟩,
 ⟨some 87,.fld (.t 3) 3,some (86,true)⟩,
 ⟨some 88,.ldl (.t 87) none,some (86,true)⟩,
 ⟨some 89,.call 16 [(.t 88),(.c (.d (.bool false)))],some (86,true)⟩,
 ⟨some 90,.pick (.t 86) (.t 89) (.c (.d (.bool false))),none⟩,
 ⟨some 9,.mv (.t 90),none⟩] [1,2,3,7,8,9,10])
 (.seq (.seq (.reg [⟨some 91,.mv (.t 9),none⟩,
 ⟨some 92,.un .not (.t 91),none⟩] [1,2,3,7,8,9,10,92])
 (.cond (.t 92) (.seq (.reg [⟨some 6,.mv (.c (.d (.bool false))),none⟩] [6])
 .ret)
 .skip))
 (.reg [⟨some 11,.mv (.c (.d (.int .i64 2))),none⟩,
 ⟨some 12,.mv (.c (.d (.int .i64 2))),none⟩] [1,2,3,7,8,9,10,11,12])))
 (.seq (.reg [⟨some 94,.bin .eql (.t 30) (.c (.d (.int .i64 9))),none⟩,
 ⟨some 93,.mv (.t 94),none⟩] [1,2,3,7,8,9,10,11,12,30,93])
 (.cond (.t 93) (.reg [⟨some 11,.mv (.c (.d (.int .i64 3))),none⟩,
 ⟨some 12,.mv (.c (.d (.int .i64 3))),none⟩] [1,2,3,7,8,9,10,11,12])
 (.seq (.reg [⟨some 96,.bin .eql (.t 30) (.c (.d (.int .i64 10))),none⟩,
 ⟨some 95,.mv (.t 96),none⟩] [1,2,3,7,8,9,10,11,12,30,95])
 (.cond (.t 95) (.seq (.reg [⟨some 97,.fld (.t 3) 5,none⟩,
 ⟨some 98,.ldl (.t 97) none,none⟩,
 ⟨some 99,.len (.t 98),none⟩,
 ⟨some 100,.bin .geq (.t 99) (.c (.d (.int .i64 1))),none⟩,
 ⟨some 10,.mv (.t 100),none⟩] [1,2,3,7,8,9,10])
 (.seq (.seq (.reg [⟨some 101,.mv (.t 10),none⟩,
 ⟨some 102,.un .not (.t 101),none⟩] [1,2,3,7,8,9,10,102])
 (.cond (.t 102) (.seq (.reg [⟨some 6,.mv (.c (.d (.bool false))),none⟩] [6])
 .ret)
 .skip))
 (.reg [⟨some 11,.mv (.c (.d (.int .i64 1))),none⟩,
 ⟨some 12,.mv (.c (.d (.int .i64 1))),none⟩] [1,2,3,7,8,9,10,11,12])))
 (.seq (.reg [⟨some 104,.bin .eql (.t 30) (.c (.d (.int .i64 11))),none⟩,
 ⟨some 103,.mv (.t 104),none⟩] [1,2,3,7,8,9,10,11,12,30,103])
 (.cond (.t 103) (.seq (.reg [⟨some 105,.fld (.t 3) 3,none⟩,
 ⟨some 106,.ldl (.t 105) none,none⟩,
 ⟨some 107,.call 16 [(.t 106),(.c (.d (.bool true)))],none⟩,
 ⟨some 9,.mv (.t 107),none⟩] [1,2,3,7,8,9,10])
 (.reg [⟨some 11,.mv (.c (.d (.int .i64 1))),none⟩,
 ⟨some 12,.mv (.c (.d (.int .i64 1))),none⟩] [1,2,3,7,8,9,10,11,12]))
 (.seq (.reg [⟨some 109,.bin .eql (.t 30) (.c (.d (.int .i64 12))),none⟩,
 ⟨some 108,.mv (.t 109),none⟩] [1,2,3,7,8,9,10,11,12,30,108])
 (.cond (.t 108) (.reg [⟨some 11,.mv (.c (.d (.int .i64 1))),none⟩,
 ⟨some 12,.mv (.c (.d (.int .i64 7))),none⟩] [1,2,3,7,8,9,10,11,12])
 (.seq (.reg [⟨some 111,.bin .eql (.t 30) (.c (.d (.int .i64 13))),none⟩,
 ⟨some 110,.mv (.t 111),none⟩] [1,2,3,7,8,9,10,11,12,30,110])
 (.cond (.t 110) (.seq (.reg [⟨some 112,.fld (.t 3) 2,none⟩,
 ⟨some 113,.ldl (.t 112) none,none⟩,
 ⟨some 114,.bin .geq (.t 113) (.c (.d (.int .i64 1))),none⟩,
 ⟨some 115,.mv (.t 114),none⟩,
 ⟨some 116,.fld (.t 3) 2,some (115,true)⟩,
 ⟨some 117,.ldl (.t 116) none,some (115,true)⟩,
 ⟨some 118,.bin .leq (.t 117) (.c (.d (.int .i64 8))),some (115,true)⟩,
 ⟨some 119,.pick (.t 115) (.t 118) (.c (.d (.bool false))),none⟩,
 ⟨some 8,.mv (.t 119),none⟩] [1,2,3,7,8,9,10])
 (.seq (.seq (.reg [⟨some 120,.mv (.t 8),none⟩,
 ⟨some 121,.un .not (.t 120),none⟩] [1,2,3,7,8,9,10,121])
 (.cond (.t 121) (.seq (.reg [⟨some 6,.mv (.c (.d (.bool false))),none⟩] [6])
 .ret)
 .skip))
 (.reg [⟨some 11,.mv (.c (.d (.int .i64 2))),none⟩,
 ⟨some 12,.mv (.c (.d (.int .i64 2))),none⟩] [1,2,3,7,8,9,10,11,12])))
 (.seq (.reg [⟨some 123,.bin .eql (.t 30) (.c (.d (.int .i64 14))),none⟩,
 ⟨some 122,.mv (.t 123),none⟩] [1,2,3,7,8,9,10,11,12,30,122])
 (.cond (.t 122) (.seq (.reg [⟨some 124,.fld (.t 3) 2,none⟩,
 ⟨some 125,.ldl (.t 124) none,none⟩,
 ⟨some 126,.bin .geq (.t 125) (.c (.d (.int .i64 1))),none⟩,
 ⟨some 127,.mv (.t 126),none⟩,
 ⟨some 128,.fld (.t 3) 2,some (127,true)⟩,
 ⟨some 129,.ldl (.t 128) none,some (127,true)⟩,
 ⟨some 130,.bin .leq (.t 129) (.c (.d (.int .i64 7))),some (127,true)⟩,
 ⟨some 131,.pick (.t 127) (.t 130) (.c (.d (.bool false))),none⟩,
 ⟨some 8,.mv (.t 131),none⟩] [1,2,3,7,8,9,10])
 (.seq (.seq (.reg [⟨some 132,.mv (.t 8),none⟩,
 ⟨some 133,.un .not (.t 132),none⟩] [1,2,3,7,8,9,10,133])
 (.cond (.t 133) (.seq (.reg [⟨some 6,.mv (.c (.d (.bool false))),none⟩] [6])
 .ret)
 .skip))
 (.reg [⟨some 134,.fld (.t 3) 2,none⟩,
 ⟨some 135,.ldl (.t 134) none,none⟩,
 ⟨some 137,.fld (.t 3) 2,none⟩,
 ⟨some 138,.ldl (.t 137) none,none⟩,
 ⟨some 136,.call 34 [(.t 135)],none⟩,
 ⟨some 139,.call 34 [(.t 138)],none⟩,
 ⟨some 11,.mv (.t 136),none⟩,
 ⟨some 12,.mv (.t 139),none⟩] [1,2,3,7,8,9,10,11,12])))
 (.seq (.reg [⟨some 141,.bin .eql (.t 30) (.c (.d (.int .i64 15))),none⟩,
 ⟨some 140,.mv (.t 141),none⟩] [1,2,3,7,8,9,10,11,12,30,140])
 (.cond (.t 140) (.reg [⟨some 142,.fld (.t 3) 2,none⟩,
 ⟨some 143,.ldl (.t 142) none,none⟩,
 ⟨some 144,.bin .geq (.t 143) (.c (.d (.int .i64 (-1000)))),none⟩,
 ⟨some 145,.mv (.t 144),none⟩,
 ⟨some 146,.fld (.t 3) 2,some (145,true)⟩,
 ⟨some 147,.ldl (.t 146) none,some (145,true)⟩,
 ⟨some 148,.bin .leq (.t 147) (.c (.d (.int .i64 1000))),some (145,true)⟩,
 ⟨some 149,.pick (.t 145) (.t 148) (.c (.d (.bool false))),none⟩,
 ⟨some 8,.mv (.t 149),none⟩] [1,2,3,7,8,9,10,11,12])
 (.seq (.reg [⟨some 151,.bin .eql (.t 30) (.c (.d (.int .i64 16))),none⟩,
 ⟨some 150,.mv (.t 151),none⟩] [1,2,3,7,8,9,10,150])
 (.cond (.t 150) (.reg [⟨some 11,.mv (.c (.d (.int .i64 1))),none⟩,
 ⟨some 12,.mv (.c (.d (.int .i64 1))),none⟩] [1,2,3,7,8,9,10,11,12])
 (.seq (.reg [⟨some 6,.mv (.c (.d (.bool false))),none⟩] [6])
 .ret)))))))))))))))))))))))))))))))))))
 (.seq (.seq (.reg [⟨some 152,.mv (.t 7),none⟩,
 ⟨some 153,.un .not (.t 152),none⟩,
 ⟨some 154,.mv (.t 153),none⟩,
 ⟨some 155,.fld (.t 3) 1,some (154,true)⟩,
 ⟨some 156,.ldl (.t 155) none,some (154,true)⟩,
 ⟨some 157,.bin .neq (.t 156) (.c (.d (.str []))),some (154,true)⟩,
 ⟨some 158,.pick (.t 154) (.t 157) (.c (.d (.bool false))),none⟩,
 ⟨some 159,.mv (.t 158),none⟩,
 ⟨some 160,.mv (.t 8),some (159,false)⟩,
 ⟨some 161,.un .not (.t 160),some (159,false)⟩,
 ⟨some 162,.mv (.t 161),some (159,false)⟩,
 ⟨some 163,.fld (.t 3) 2,some (162,true)⟩,
 ⟨some 164,.ldl (.t 163) none,some (162,true)⟩,
 ⟨some 165,.bin .neq (.t 164) (.c (.d (.int .i64 0))),some (162,true)⟩,
 ⟨some 166,.pick (.t 162) (.t 165) (.c (.d (.bool false))),some (159,false)⟩,
 ⟨some 167,.pick (.t 159) (.c (.d (.bool true))) (.t 166),none⟩,
 ⟨some 168,.mv (.t 167),none⟩,
 ⟨some 169,.mv (.t 9),some (168,false)⟩,
 ⟨some 170,.un .not (.t 169),some (168,false)⟩,
 ⟨some 171,.mv (.t 170),some (168,false)⟩,
 ⟨some 172,.fld (.t 3) 3,some (171,true)⟩,
 ⟨some 173,.ldl (.t 172) none,some (171,true)⟩,
 ⟨some 174,.len (.t 173),some (171,true)⟩,
 ⟨some 175,.bin .gtr (.t 174) (.c (.d (.int .i64 0))),some (171,true)⟩,
 ⟨some 176,.pick (.t 171) (.t 175) (.c (.d (.bool false))),some (168,false)⟩,
 ⟨some 177,.pick (.t 168) (.c (.d (.bool true))) (.t 176),none⟩,
 ⟨some 178,.mv (.t 177),none⟩,
 ⟨some 179,.mv (.t 10),some (178,false)⟩,
 ⟨some 180,.un .not (.t 179),some (178,false)⟩,
 ⟨some 181,.mv (.t 180),some (178,false)⟩,
 ⟨some 182,.fld (.t 3) 5,some (181,true)⟩,
 ⟨some 183,.ldl (.t 182) none,some (181,true)⟩,
 ⟨some 184,.len (.t 183),some (181,true)⟩,
 ⟨some 185,.bin .gtr (.t 184) (.c (.d (.int .i64 0))),some (181,true)⟩,
 ⟨some 186,.pick (.t 181) (.t 185) (.c (.d (.bool false))),some (178,false)⟩,
 ⟨some 187,.pick (.t 178) (.c (.d (.bool true))) (.t 186),none⟩,
 ⟨some 188,.mv (.t 187),none⟩,
 ⟨some 189,.fld (.t 3) 4,some (188,false)⟩,
 ⟨some 190,.ldl (.t 189) none,some (188,false)⟩,
 ⟨some 191,.len (.t 190),some (188,false)⟩,
 ⟨some 192,.mv (.t 11),some (188,false)⟩,
 ⟨some 193,.bin .lss (.t 191) (.t 192),some (188,false)⟩,
 ⟨some 194,.pick (.t 188) (.c (.d (.bool true))) (.t 193),none⟩,
 ⟨some 195,.mv (.t 194),none⟩,
 ⟨some 196,.fld (.t 3) 4,some (195,false)⟩,
 ⟨some 197,.ldl (.t 196) none,some (195,false)⟩,
 ⟨some 198,.len (.t 197),some (195,false)⟩,
 ⟨some 199,.mv (.t 12),some (195,false)⟩,
 ⟨some 200,.bin .gtr (.t 198) (.t 199),some (195,false)⟩,
 ⟨some 201,.pick (.t 195) (.c (.d (.bool true))) (.t 200),none⟩] [1,2,3,201])
 (.cond (.t 201) (.seq (.reg [⟨some 6,.mv (.c (.d (.bool false))),none⟩] [6])
 .ret)
 .skip))
 (.seq (.seq (.reg [⟨some 13,.mv (.c (.d (.int .i64 0))),none⟩] [1,2,3,13])
 (.block 1 (.loop c_r4_validExpr_L0)))
 (.seq (.seq (.reg [⟨some 14,.mv (.c (.d (.int .i64 0))),none⟩] [1,2,3,14])
 (.block 3 (.loop c_r4_validExpr_L1)))
 (.seq (.reg [⟨some 6,.mv (.c (.d (.bool true))),none⟩] [6])
 .ret))))))))))
def t_r4_validExpr : List (List Nat × PT) := [([1,2,3],.done),([1,2,3,23],.done),([6],.done),([1,2,3],.done),([1,2,3,7,8,9,10],.done),([1,2,3,7,8,9,10,11,12],.done),([1,2,3,7,8,9,10,11,12,30],.done),([1,2,3,7,8,9,10,11,12,30,31],.done),([1,2,3,7,8,9,10,11,12,30,33],.done),([1,2,3,7,8,9,10,11,12],.done),([1,2,3,7,8,9,10,11,12,30,43],.done),([1,2,3,7,8,9,10,11,12],.done),([1,2,3,7,8,9,10,11,12,30,53],.done),([1,2,3,7,8,9,10,11,12],.done),([1,2,3,7,8,9,10,11,12,59],.done),([6],.done),([1,2,3,7,8,9,10,11,12,30,60],.done),([1,2,3,7,8,9,10,11,12],.done),([1,2,3,7,8,9,10,11,12,30,62],.done),([1,2,3,7,8,9,10,11],.done),([1,2,3,7,8,9,10,11,68],.done),([6],.done),([1,2,3,7,8,9,10,11,12],.done),([1,2,3,7,8,9,10,11,12,30,69],.done),([1,2,3,7,8,9,10,11,12,30,69],.done),([1,2,3,7,8,9,10],.done),([1,2,3,7,8,9,10,11,12],.done),([1,2,3,7,8,9,10,11,12,30,80],.done),([1,2,3,7,8,9,10],.done),([1,2,3,7,8,9,10,92],.done),([6],.done),([1,2,3,7,8,9,10,11,12],.done),([1,2,3,7,8,9,10,11,12,30,93],.done),([1,2,3,7,8,9,10,11,12],.done),([1,2,3,7,8,9,10,11,12,30,95],.done),([1,2,3,7,8,9,10],.done),([1,2,3,7,8,9,10,102],.done),([6],.done),([1,2,3,7,8,9,10,11,12],.done),([1,2,3,7,8,9,10,11,12,30,103],.done),([1,2,3,7,8,9,10],.done),([1,2,3,7,8,9,10,11,12],.done),([1,2,3,7,8,9,10,11,12,30,108],.done),([1,2,3,7,8,9,10,11,12],.done),([1,2,3,7,8,9,10,11,12,30,110],.done),([1,2,3,7,8,9,10],.done),([1,2,3,7,8,9,10,121],.done),([6],.done),([1,2,3,7,8,9,10,11,12],.done),([1,2,3,7,8,9,10,11,12,30,122],.done),([1,2,3,7,8,9,10],.done),([1,2,3,7,8,9,10,133],.done),([6],.done),([1,2,3,7,8,9,10,11,12],(.one 0 (.one 1 (.one 3 (.one 4 (.one 2 (.one 5 (.one 6 (.one 7 .done))))))))),([1,2,3,7,8,9,10,11,12,30,140],.done),([1,2,3,7,8,9,10,11,12],.done),([1,2,3,7,8,9,10,150],.done),([1,2,3,7,8,9,10,11,12],.done),([6],.done),([1,2,3,201],.done),([6],.done),([1,2,3,13],.done),([1,2,3,13,206],.done),([1,2,3,13,218],.done),([6],.done),([1,2,3,13],.done),([1,2,3,14],.done),([1,2,3,14,223],.done),([1,2,3,14,15],.done),([1,2,3,14,249],.done),([6],.done),([1,2,3,14],.done),([6],.done)]
noncomputable def x_r4_validExpr : Cx := ⟨Try.prog,18,Try.f18,250,[300030,300036,300040,300046,300050,300056,300065,300073,300077,300083,300088,300098,300106,300113,300117,300125,300129,300135,300138,300143,300147,300156,300164,300173,300183,300190,300197,300204,300210,300221,300227,300232,300237,300243],[],[.t 6]⟩
theorem g_r4_validExpr : Good x_r4_validExpr := ⟨Try.func18,by kernel_rfl⟩
theorem rs_r4_validExpr : x_r4_validExpr.rs = [.t 6] := rfl
theorem i_r4_validExpr (hl : args.length ≤ 250) (h : Run x_r4_validExpr K [.code c_r4_validExpr] (argF args) E σ) : ACalls Try.prog 18 args σ K :=
  acalls_of (cx := x_r4_validExpr) (code := Try.f18.body.getD .skip) g_r4_validExpr (by kernel_rfl) Try.ntmps18 hl (compC_rc x_r4_validExpr _ t_r4_validExpr _ [] (by kernel_rfl)) h
def c_syntax_validData : C := (.seq (.reg [⟨some 1,.box (.t 0) false,none⟩,
 ⟨some 2,.mv (.c (.d (.bool false))),none⟩] [1])
 (.seq (.seq (.reg [⟨some 3,.fld (.t 1) 0,none⟩,
 ⟨some 4,.ldl (.t 3) none,none⟩,
 ⟨some 5,.call 58 [(.t 4)],none⟩,
 ⟨some 6,.un .not (.t 5),none⟩,
 ⟨some 7,.mv (.t 6),none⟩,
 ⟨some 8,.fld (.t 1) 1,some (7,false)⟩,
 ⟨some 9,.ldl (.t 8) none,some (7,false)⟩,
 ⟨some 10,.len (.t 9),some (7,false)⟩,
 ⟨some 11,.bin .gtr (.t 10) (.c (.d (.int .i64 6))),some (7,false)⟩,
 ⟨some 12,.pick (.t 7) (.c (.d (.bool true))) (.t 11),none⟩,
 ⟨some 13,.mv (.t 12),none⟩,
 ⟨some 14,.fld (.t 1) 1,some (13,false)⟩,
 ⟨some 15,.ldl (.t 14) none,some (13,false)⟩,
 ⟨some 16,.call 52 [(.t 15),(.c (.fn 51 [] []))],some (13,false)⟩,
 ⟨some 17,.un .not (.t 16),some (13,false)⟩,
 ⟨some 18,.pick (.t 13) (.c (.d (.bool true))) (.t 17),none⟩] [1,18])
 (.cond (.t 18) (.seq (.reg [⟨some 2,.mv (.c (.d (.bool false))),none⟩] [2])
 .ret)
 .skip))
 (.seq (.seq (.reg [⟨some 19,.fld (.t 1) 2,none⟩,
 ⟨some 20,.ldl (.t 19) none,none⟩,
 ⟨some 21,.len (.t 20),none⟩,
 ⟨some 22,.bin .lss (.t 21) (.c (.d (.int .i64 1))),none⟩,
 ⟨some 23,.mv (.t 22),none⟩,
 ⟨some 24,.fld (.t 1) 2,some (23,false)⟩,
 ⟨some 25,.ldl (.t 24) none,some (23,false)⟩,
 ⟨some 26,.len (.t 25),some (23,false)⟩,
 ⟨some 27,.bin .gtr (.t 26) (.c (.d (.int .i64 8))),some (23,false)⟩,
 ⟨some 28,.pick (.t 23) (.c (.d (.bool true))) (.t 27),none⟩] [1,28])
 (.cond (.t 28) (.seq (.reg [⟨some 2,.mv (.c (.d (.bool false))),none⟩] [2])
 .ret)
 .skip))
 (.seq (.reg [⟨some 29,.fld (.t 1) 2,none⟩,
 ⟨some 30,.ldl (.t 29) none,none⟩,
 ⟨some 31,.call 59 [(.t 30),(.c (.fn 60 [] []))],none⟩,
 ⟨some 2,.mv (.t 31),none⟩] [2])
 .ret))))
noncomputable def x_syntax_validData : Cx := ⟨Try.prog,50,Try.f50,32,[300004,300009,300015,300020,300025,300030],[],[.t 2]⟩
theorem g_syntax_validData : Good x_syntax_validData := ⟨Try.func50,by kernel_rfl⟩
theorem rs_syntax_validData : x_syntax_validData.rs = [.t 2] := rfl
theorem i_syntax_validData (hl : args.length ≤ 32) (h : Run x_syntax_validData K [.code c_syntax_validData] (argF args) E σ) : ACalls Try.prog 50 args σ K :=
  acalls_of (cx := x_syntax_validData) (code := Try.f50.body.getD .skip) g_syntax_validData (by kernel_rfl) Try.ntmps50 hl (compC_rc x_syntax_validData _ (ctOf c_syntax_validData) _ [] (by kernel_rfl)) h
def c_syntax_isName : C := (.seq (.reg [⟨some 2,.mv (.c (.d (.bool false))),none⟩] [0])
 (.seq (.reg [⟨some 3,.mv (.t 0),none⟩,
 ⟨some 4,.call 64 [(.t 3),(.c (.d (.int .i64 1)))],none⟩,
 ⟨some 2,.mv (.t 4),none⟩] [2])
 .ret))
noncomputable def x_syntax_isName : Cx := ⟨Try.prog,51,Try.f51,5,[],[],[.t 2]⟩
theorem g_syntax_isName : Good x_syntax_isName := ⟨Try.func51,by kernel_rfl⟩
theorem rs_syntax_isName : x_syntax_isName.rs = [.t 2] := rfl
theorem i_syntax_isName (hl : args.length ≤ 5) (h : Run x_syntax_isName K [.code c_syntax_isName] (argF args) E σ) : ACalls Try.prog 51 args σ K :=
  acalls_of (cx := x_syntax_isName) (code := Try.f51.body.getD .skip) g_syntax_isName (by kernel_rfl) Try.ntmps51 hl (compC_rc x_syntax_isName _ (ctOf c_syntax_isName) _ [] (by kernel_rfl)) h
def c_syntax_all_string : C := (.seq (.reg [⟨some 3,.box (.t 1) true,none⟩,
 ⟨some 4,.mv (.c (.d (.bool false))),none⟩] [0,3])
 (.seq (.reg [⟨some 5,.mv (.t 0),none⟩,
 ⟨some 6,.mkf 66 [] [(.t 3)],none⟩,
 ⟨some 7,.call 65 [(.t 5),(.t 6)],none⟩,
 ⟨some 8,.un .not (.t 7),none⟩,
 ⟨some 4,.mv (.t 8),none⟩] [4])
 .ret))
noncomputable def x_syntax_all_string : Cx := ⟨Try.prog,52,Try.f52,9,[3],[],[.t 4]⟩
theorem g_syntax_all_string : Good x_syntax_all_string := ⟨Try.func52,by kernel_rfl⟩
theorem rs_syntax_all_string : x_syntax_all_string.rs = [.t 4] := rfl
theorem i_syntax_all_string (hl : args.length ≤ 9) (h : Run x_syntax_all_string K [.code c_syntax_all_string] (argF args) E σ) : ACalls Try.prog 52 args σ K :=
  acalls_of (cx := x_syntax_all_string) (code := Try.f52.body.getD .skip) g_syntax_all_string (by kernel_rfl) Try.ntmps52 hl (compC_rc x_syntax_all_string _ (ctOf c_syntax_all_string) _ [] (by kernel_rfl)) h
def c_syntax_counter_expr_L0 : C := (.seq (.reg [⟨some 36,.bin .lss (.t 35) (.t 34),none⟩] [0,2,4,33,34,35,36])
 (.seq (.cond (.t 36) .skip
 (.exit 0))
 (.seq (.block 1 (.seq (.reg [⟨some 37,.ix (.t 33) (.t 35) 6,none⟩,
 ⟨some 38,.ld (.t 37) (some 6),none⟩,
 ⟨some 8,.al [(.d (.int .i64 0)),(.d (.str [])),(.d (.int .i64 0)),.nils,.nils,.nils] false,none⟩,
 ⟨none,.st (.t 8) (.t 38) 6,none⟩] [0,2,4,8,33,34,35])
 (.seq (.reg [⟨some 39,.mv (.t 0),none⟩,
 ⟨some 40,.ldl (.t 8) (some 6),none⟩,
 ⟨some 41,.mv (.t 2),none⟩,
 ⟨some 42,.bin .add (.t 41) (.c (.d (.int .i64 1))),none⟩,
 ⟨some 43,.call 53 [(.t 39),(.t 40),(.t 42)],none⟩,
 ⟨some 44,.un .not (.t 43),none⟩] [0,2,4,33,34,35,44])
 (.cond (.t 44) (.seq (.reg [⟨some 6,.mv (.c (.d (.bool false))),none⟩] [6])
 .ret)
 .skip))))
 (.reg [⟨some 45,.bin .add (.t 35) (.c (.d (.int .i64 1))),none⟩,
 ⟨some 35,.mv (.t 45),none⟩] [0,2,4,33,34,35]))))
def c_syntax_counter_expr_L1 : C := (.seq (.reg [⟨some 50,.bin .lss (.t 49) (.t 48),none⟩] [0,2,47,48,49,50])
 (.seq (.cond (.t 50) .skip
 (.exit 2))
 (.seq (.block 3 (.seq (.reg [⟨some 51,.ix (.t 47) (.t 49) 8,none⟩,
 ⟨some 52,.ld (.t 51) (some 8),none⟩,
 ⟨some 10,.al [(.d (.str [])),.nils,(.d (.int .i64 0)),(.d (.str [])),(.d (.int .i64 0)),.nils,.nils,.nils] false,none⟩,
 ⟨none,.st (.t 10) (.t 52) 8,none⟩] [0,2,10,47,48,49])
 (.seq (.reg [⟨some 53,.mv (.t 0),none⟩,
 ⟨some 54,.fld (.t 10) 2,none⟩,
 ⟨some 55,.ldl (.t 54) (some 6),none⟩,
 ⟨some 56,.mv (.t 2),none⟩,
 ⟨some 57,.bin .add (.t 56) (.c (.d (.int .i64 1))),none⟩,
 ⟨some 58,.call 53 [(.t 53),(.t 55),(.t 57)],none⟩,
 ⟨some 59,.un .not (.t 58),none⟩] [0,2,47,48,49,59])
 (.cond (.t 59) (.seq (.reg [⟨some 6,.mv (.c (.d (.bool false))),none⟩] [6])
 .ret)
 .skip))))
 (.reg [⟨some 60,.bin .add (.t 49) (.c (.d (.int .i64 1))),none⟩,
 ⟨some 49,.mv (.t 60),none⟩] [0,2,47,48,49]))))
def c_syntax_counter_expr : C := (.seq (.reg [⟨some 4,.box (.t 1) false,none⟩,
 ⟨some 6,.mv (.c (.d (.bool false))),none⟩] [0,2,4])
 (.seq (.reg [⟨some 11,.mv (.t 0),none⟩,
 ⟨some 12,.nck (.t 11),none⟩,
 ⟨some 13,.fld (.t 12) 0,none⟩,
 ⟨some 14,.ld (.t 13) none,none⟩,
 ⟨some 15,.bin .add (.t 14) (.c (.d (.int .i64 1))),none⟩,
 ⟨some 16,.nck (.t 11),none⟩,
 ⟨some 17,.fld (.t 16) 0,none⟩,
 ⟨none,.st (.t 17) (.t 15) 1,none⟩] [0,2,4])
 (.seq (.seq (.reg [⟨some 18,.mv (.t 0),none⟩,
 ⟨some 19,.nck (.t 18),none⟩,
 ⟨some 20,.fld (.t 19) 0,none⟩,
 ⟨some 21,.ld (.t 20) none,none⟩,
 ⟨some 22,.bin .gtr (.t 21) (.c (.d (.int .i64 600))),none⟩,
 ⟨some 23,.mv (.t 22),none⟩,
 ⟨some 24,.mv (.t 2),some (23,false)⟩,
 ⟨some 25,.bin .gtr (.t 24) (.c (.d (.int .i64 40))),some (23,false)⟩,
 ⟨some 26,.pick (.t 23) (.c (.d (.bool true))) (.t 25),none⟩,
 ⟨some 27,.mv (.t 26),none⟩,
 ⟨some 28,.ldl (.t 4) (some 6),some (27,false)⟩,
 ⟨some 29,.call 67 [(.t 28)],some (27,false)⟩,
 ⟨some 30,.un .not (.t 29),some (27,false)⟩,
 ⟨some 31,.pick (.t 27) (.c (.d (.bool true))) (.t 30),none⟩] [0,2,4,31])
 (.cond (.t 31) (.seq (.reg [⟨some 6,.mv (.c (.d (.bool false))),none⟩] [6])
 .ret)
 .skip))
 (.seq (.seq (.reg [⟨some 32,.fld (.t 4) 4,none⟩,
 ⟨some 33,.ldl (.t 32) none,none⟩,
 ⟨some 34,.len (.t 33),none⟩,
 ⟨some 35,.mv (.c (.d (.int .i64 0))),none⟩] [0,2,4,33,34,35])
 (.block 0 (.loop c_syntax_counter_expr_L0)))
 (.seq (.seq (.reg [⟨some 46,.fld (.t 4) 5,none⟩,
 ⟨some 47,.ldl (.t 46) none,none⟩,
 ⟨some 48,.len (.t 47),none⟩,
 ⟨some 49,.mv (.c (.d (.int .i64 0))),none⟩] [0,2,47,48,49])
 (.block 2 (.loop c_syntax_counter_expr_L1)))
 (.seq (.reg [⟨some 6,.mv (.c (.d (.bool true))),none⟩] [6])
 .ret))))))
noncomputable def x_syntax_counter_expr : Cx := ⟨Try.prog,53,Try.f53,61,[300028,300033,300040,300047,300055],[],[.t 6]⟩
theorem g_syntax_counter_expr : Good x_syntax_counter_expr := ⟨Try.func53,by kernel_rfl⟩
theorem rs_syntax_counter_expr : x_syntax_counter_expr.rs = [.t 6] := rfl
theorem i_syntax_counter_expr (hl : args.length ≤ 61) (h : Run x_syntax_counter_expr K [.code c_syntax_counter_expr] (argF args) E σ) : ACalls Try.prog 53 args σ K :=
  acalls_of (cx := x_syntax_counter_expr) (code := Try.f53.body.getD .skip) g_syntax_counter_expr (by kernel_rfl) Try.ntmps53 hl (compC_rc x_syntax_counter_expr _ (ctOf c_syntax_counter_expr) _ [] (by kernel_rfl)) h
def c_r3_Split_L0 : C := (.seq (.seq (.reg [⟨some 40,.mv (.t 6),none⟩,
 ⟨some 41,.mv (.t 0),none⟩,
 ⟨some 42,.slen (.t 41),none⟩,
 ⟨some 43,.bin .lss (.t 40) (.t 42),none⟩,
 ⟨some 44,.mv (.t 43),none⟩,
 ⟨some 45,.mv (.t 0),some (44,true)⟩,
 ⟨some 46,.mv (.t 6),some (44,true)⟩,
 ⟨some 47,.sidx (.t 45) (.t 46),some (44,true)⟩,
 ⟨some 48,.bin .neq (.t 47) (.c (.d (.int .u8 10))),some (44,true)⟩,
 ⟨some 49,.pick (.t 44) (.t 48) (.c (.d (.bool false))),none⟩] [0,5,6,49])
 (.cond (.t 49) .skip
 (.exit 2)))
 (.block 3 (.reg [⟨some 50,.mv (.t 6),none⟩,
 ⟨some 51,.bin .add (.t 50) (.c (.d (.int .i64 1))),none⟩,
 ⟨some 6,.mv (.t 51),none⟩] [0,5,6])))
def c_r3_Split_L1 : C := (.seq (.seq (.reg [⟨some 77,.mv (.t 6),none⟩,
 ⟨some 78,.mv (.t 8),none⟩,
 ⟨some 79,.bin .add (.t 77) (.t 78),none⟩,
 ⟨some 80,.mv (.t 0),none⟩,
 ⟨some 81,.slen (.t 80),none⟩,
 ⟨some 82,.bin .lss (.t 79) (.t 81),none⟩,
 ⟨some 83,.mv (.t 82),none⟩,
 ⟨some 84,.mv (.t 0),some (83,true)⟩,
 ⟨some 85,.mv (.t 6),some (83,true)⟩,
 ⟨some 86,.mv (.t 8),some (83,true)⟩,
 ⟨some 87,.bin .add (.t 85) (.t 86),some (83,true)⟩,
 ⟨some 88,.sidx (.t 84) (.t 87),some (83,true)⟩,
 ⟨some 89,.call 44 [(.t 88)],some (83,true)⟩,
 ⟨some 90,.mv (.t 89),some (83,true)⟩,
 ⟨some 91,.mv (.t 0),some (90,false)⟩,
 ⟨some 92,.mv (.t 6),some (90,false)⟩,
 ⟨some 93,.mv (.t 8),some (90,false)⟩,
 ⟨some 94,.bin .add (.t 92) (.t 93),some (90,false)⟩,
 ⟨some 95,.sidx (.t 91) (.t 94),some (90,false)⟩,
 ⟨some 96,.call 45 [(.t 95)],some (90,false)⟩,
 ⟨some 97,.pick (.t 90) (.c (.d (.bool true))) (.t 96),some (83,true)⟩,
 ⟨some 98,.mv (.t 97),some (83,true)⟩,
 ⟨some 99,.mv (.t 0),some (98,false)⟩,
 ⟨some 100,.mv (.t 6),some (98,false)⟩,
 ⟨some 101,.mv (.t 8),some (98,false)⟩,
 ⟨some 102,.bin .add (.t 100) (.t 101),some (98,false)⟩,
 ⟨some 103,.sidx (.t 99) (.t 102),some (98,false)⟩,
 ⟨some 104,.call 46 [(.t 103)],some (98,false)⟩,
 ⟨some 105,.pick (.t 98) (.c (.d (.bool true))) (.t 104),some (83,true)⟩,
 ⟨some 106,.mv (.t 105),some (83,true)⟩,
 ⟨some 107,.mv (.t 0),some (106,false)⟩,
 ⟨some 108,.mv (.t 6),some (106,false)⟩,
 ⟨some 109,.mv (.t 8),some (106,false)⟩,
 ⟨some 110,.bin .add (.t 108) (.t 109),some (106,false)⟩,
 ⟨some 111,.sidx (.t 107) (.t 110),some (106,false)⟩,
 ⟨some 112,.bin .eql (.t 111) (.c (.d (.int .u8 95))),some (106,false)⟩,
 ⟨some 113,.pick (.t 106) (.c (.d (.bool true))) (.t 112),some (83,true)⟩,
 ⟨some 114,.pick (.t 83) (.t 113) (.c (.d (.bool false))),none⟩] [0,5,6,7,8,114])
 (.cond (.t 114) .skip
 (.exit 5)))
 (.block 6 (.reg [⟨some 115,.mv (.t 8),none⟩,
 ⟨some 116,.bin .add (.t 115) (.c (.d (.int .i64 1))),none⟩,
 ⟨some 8,.mv (.t 116),none⟩] [0,5,6,7,8])))
def c_r3_Split_L2 : C := (.seq (.seq (.reg [⟨some 144,.mv (.t 6),none⟩,
 ⟨some 145,.mv (.t 8),none⟩,
 ⟨some 146,.bin .add (.t 144) (.t 145),none⟩,
 ⟨some 147,.mv (.t 0),none⟩,
 ⟨some 148,.slen (.t 147),none⟩,
 ⟨some 149,.bin .lss (.t 146) (.t 148),none⟩,
 ⟨some 150,.mv (.t 149),none⟩,
 ⟨some 151,.mv (.t 0),some (150,true)⟩,
 ⟨some 152,.mv (.t 6),some (150,true)⟩,
 ⟨some 153,.mv (.t 8),some (150,true)⟩,
 ⟨some 154,.bin .add (.t 152) (.t 153),some (150,true)⟩,
 ⟨some 155,.sidx (.t 151) (.t 154),some (150,true)⟩,
 ⟨some 156,.call 46 [(.t 155)],some (150,true)⟩,
 ⟨some 157,.pick (.t 150) (.t 156) (.c (.d (.bool false))),none⟩] [0,5,6,7,8,157])
 (.cond (.t 157) .skip
 (.exit 7)))
 (.block 8 (.reg [⟨some 158,.mv (.t 8),none⟩,
 ⟨some 159,.bin .add (.t 158) (.c (.d (.int .i64 1))),none⟩,
 ⟨some 8,.mv (.t 159),none⟩] [0,5,6,7,8])))
def c_r3_Split_L3 : C := (.seq (.seq (.reg [⟨some 15,.mv (.t 6),none⟩,
 ⟨some 16,.mv (.t 0),none⟩,
 ⟨some 17,.slen (.t 16),none⟩,
 ⟨some 18,.bin .lss (.t 15) (.t 17),none⟩] [0,5,6,18])
 (.cond (.t 18) .skip
 (.exit 0)))
 (.block 1 (.seq (.reg [⟨some 19,.mv (.t 0),none⟩,
 ⟨some 20,.mv (.t 6),none⟩,
 ⟨some 21,.sidx (.t 19) (.t 20),none⟩,
 ⟨some 7,.mv (.t 21),none⟩] [0,5,6,7])
 (.seq (.seq (.reg [⟨some 22,.mv (.t 7),none⟩,
 ⟨some 23,.bin .eql (.t 22) (.c (.d (.int .u8 9))),none⟩,
 ⟨some 24,.mv (.t 23),none⟩,
 ⟨some 25,.mv (.t 7),some (24,false)⟩,
 ⟨some 26,.bin .eql (.t 25) (.c (.d (.int .u8 10))),some (24,false)⟩,
 ⟨some 27,.pick (.t 24) (.c (.d (.bool true))) (.t 26),none⟩,
 ⟨some 28,.mv (.t 27),none⟩,
 ⟨some 29,.mv (.t 7),some (28,false)⟩,
 ⟨some 30,.bin .eql (.t 29) (.c (.d (.int .u8 13))),some (28,false)⟩,
 ⟨some 31,.pick (.t 28) (.c (.d (.bool true))) (.t 30),none⟩,
 ⟨some 32,.mv (.t 31),none⟩,
 ⟨some 33,.mv (.t 7),some (32,false)⟩,
 ⟨some 34,.bin .eql (.t 33) (.c (.d (.int .u8 32))),some (32,false)⟩,
 ⟨some 35,.pick (.t 32) (.c (.d (.bool true))) (.t 34),none⟩] [0,5,6,7,35])
 (.cond (.t 35) (.seq (.reg [⟨some 36,.mv (.t 6),none⟩,
 ⟨some 37,.bin .add (.t 36) (.c (.d (.int .i64 1))),none⟩,
 ⟨some 6,.mv (.t 37),none⟩] [0,5,6])
 (.exit 1))
 .skip))
 (.seq (.seq (.reg [⟨some 38,.mv (.t 7),none⟩,
 ⟨some 39,.bin .eql (.t 38) (.c (.d (.int .u8 35))),none⟩] [0,5,6,7,39])
 (.cond (.t 39) (.seq (.block 2 (.loop c_r3_Split_L0))
 (.exit 1))
 .skip))
 (.seq (.reg [⟨some 8,.mv (.c (.d (.int .i64 1))),none⟩] [0,5,6,7,8])
 (.seq (.block 4 (.seq (.reg [⟨some 71,.mv (.t 7),none⟩,
 ⟨some 72,.call 44 [(.t 71)],none⟩,
 ⟨some 73,.mv (.t 72),none⟩,
 ⟨some 74,.mv (.t 7),some (73,false)⟩,
 ⟨some 75,.call 45 [(.t 74)],some (73,false)⟩,
 ⟨some 76,.pick (.t 73) (.c (.d (.bool true))) (.t 75),none⟩,
 ⟨some 70,.mv (.t 76),none⟩] [0,5,6,7,8,70])
 (.cond (.t 70) (.seq (.block 5 (.loop c_r3_Split_L1))
 (.seq (.seq (.reg [⟨some 117,.mv (.t 8),none⟩,
 ⟨some 118,.bin .gtr (.t 117) (.c (.d (.int .i64 24))),none⟩] [0,5,6,7,8,118])
 (.cond (.t 118) (.seq (.reg [⟨some 119,.mv (.t 6),none⟩,
 ⟨some 2,.mv (.c .nils),none⟩,
 ⟨some 3,.mv (.t 119),none⟩,
 ⟨some 4,.mv (.c (.d (.int .i64 9))),none⟩] [2,3,4])
 .ret)
 .skip))
 (.seq (.reg [⟨some 9,.mv (.c (.d (.int .i64 1))),none⟩] [0,5,6,7,8,9])
 (.seq (.seq (.reg [⟨some 120,.mv (.t 7),none⟩,
 ⟨some 121,.call 45 [(.t 120)],none⟩] [0,5,6,8,9,121])
 (.cond (.t 121) (.reg [⟨some 9,.mv (.c (.d (.int .i64 2))),none⟩] [0,5,6,8,9])
 (.seq (.reg [⟨some 122,.mv (.t 0),none⟩,
 ⟨some 123,.mv (.t 6),none⟩,
 ⟨some 124,.mv (.t 6),none⟩,
 ⟨some 125,.mv (.t 8),none⟩,
 ⟨some 126,.bin .add (.t 124) (.t 125),none⟩,
 ⟨some 127,.ssl (.t 122) (some (.t 123)) (some (.t 126)),none⟩,
 ⟨some 128,.call 47 [(.t 127)],none⟩] [0,5,6,8,9,128])
 (.cond (.t 128) (.reg [⟨some 9,.mv (.c (.d (.int .i64 4))),none⟩] [0,5,6,8,9])
 .skip))))
 (.reg [⟨some 129,.mv (.t 5),none⟩,
 ⟨some 130,.mv (.t 9),none⟩,
 ⟨some 131,.mv (.t 0),none⟩,
 ⟨some 132,.mv (.t 6),none⟩,
 ⟨some 133,.mv (.t 6),none⟩,
 ⟨some 134,.mv (.t 8),none⟩,
 ⟨some 135,.bin .add (.t 133) (.t 134),none⟩,
 ⟨some 136,.ssl (.t 131) (some (.t 132)) (some (.t 135)),none⟩,
 ⟨some 137,.mv (.t 6),none⟩,
 ⟨some 138,.bld [(.d (.int .i64 0)),(.d (.str [])),(.d (.int .i64 0))] [(0,1,(.t 130)),(1,1,(.t 136)),(2,1,(.t 137))],none⟩,
 ⟨some 139,.bsl 3 1 [(.d (.int .i64 0)),(.d (.str [])),(.d (.int .i64 0))] [(0,3,(.t 138))],none⟩,
 ⟨some 140,.app 87 3 32 (.t 129) (.t 139),none⟩,
 ⟨some 5,.mv (.t 140),none⟩] [0,5,6,8])))))
 (.seq (.reg [⟨some 142,.mv (.t 7),none⟩,
 ⟨some 143,.call 46 [(.t 142)],none⟩,
 ⟨some 141,.mv (.t 143),none⟩] [0,5,6,7,8,141])
 (.cond (.t 141) (.seq (.block 7 (.loop c_r3_Split_L2))
 (.seq (.seq (.reg [⟨some 160,.mv (.t 8),none⟩,
 ⟨some 161,.bin .gtr (.t 160) (.c (.d (.int .i64 1))),none⟩,
 ⟨some 162,.mv (.t 161),none⟩,
 ⟨some 163,.mv (.t 7),some (162,true)⟩,
 ⟨some 164,.bin .eql (.t 163) (.c (.d (.int .u8 48))),some (162,true)⟩,
 ⟨some 165,.pick (.t 162) (.t 164) (.c (.d (.bool false))),none⟩] [0,5,6,8,165])
 (.cond (.t 165) (.seq (.reg [⟨some 166,.mv (.t 6),none⟩,
 ⟨some 2,.mv (.c .nils),none⟩,
 ⟨some 3,.mv (.t 166),none⟩,
 ⟨some 4,.mv (.c (.d (.int .i64 2))),none⟩] [2,3,4])
 .ret)
 .skip))
 (.seq (.seq (.reg [⟨some 168,.mv (.t 0),none⟩,
 ⟨some 169,.mv (.t 6),none⟩,
 ⟨some 170,.mv (.t 6),none⟩,
 ⟨some 171,.mv (.t 8),none⟩,
 ⟨some 172,.bin .add (.t 170) (.t 171),none⟩,
 ⟨some 173,.ssl (.t 168) (some (.t 169)) (some (.t 172)),none⟩,
 ⟨some 174,.call 48 [(.t 173)],none⟩,
 ⟨some 167,.mv (.t 174),none⟩,
 ⟨some 175,.ext (.t 167) 0,none⟩,
 ⟨some 176,.ext (.t 167) 1,none⟩,
 ⟨some 10,.mv (.t 175),none⟩,
 ⟨some 11,.mv (.t 176),none⟩] [0,5,6,8,11])
 (.seq (.reg [⟨some 177,.mv (.t 11),none⟩,
 ⟨some 178,.un .not (.t 177),none⟩] [0,5,6,8,178])
 (.cond (.t 178) (.seq (.reg [⟨some 179,.mv (.t 6),none⟩,
 ⟨some 2,.mv (.c .nils),none⟩,
 ⟨some 3,.mv (.t 179),none⟩,
 ⟨some 4,.mv (.c (.d (.int .i64 9))),none⟩] [2,3,4])
 .ret)
 .skip)))
 (.reg [⟨some 180,.mv (.t 5),none⟩,
 ⟨some 181,.mv (.t 0),none⟩,
 ⟨some 182,.mv (.t 6),none⟩,
 ⟨some 183,.mv (.t 6),none⟩,
 ⟨some 184,.mv (.t 8),none⟩,
 ⟨some 185,.bin .add (.t 183) (.t 184),none⟩,
 ⟨some 186,.ssl (.t 181) (some (.t 182)) (some (.t 185)),none⟩,
 ⟨some 187,.mv (.t 6),none⟩,
 ⟨some 188,.bld [(.d (.int .i64 0)),(.d (.str [])),(.d (.int .i64 0))] [(0,1,(.c (.d (.int .i64 3)))),(1,1,(.t 186)),(2,1,(.t 187))],none⟩,
 ⟨some 189,.bsl 3 1 [(.d (.int .i64 0)),(.d (.str [])),(.d (.int .i64 0))] [(0,3,(.t 188))],none⟩,
 ⟨some 190,.app 87 3 32 (.t 180) (.t 189),none⟩,
 ⟨some 5,.mv (.t 190),none⟩] [0,5,6,8]))))
 (.seq (.reg [⟨some 52,.mv (.t 0),none⟩,
 ⟨some 53,.mv (.t 6),none⟩,
 ⟨some 54,.ssl (.t 52) (some (.t 53)) none,none⟩,
 ⟨some 55,.call 49 [(.t 54)],none⟩,
 ⟨some 8,.mv (.t 55),none⟩] [0,5,6,8])
 (.seq (.seq (.reg [⟨some 56,.mv (.t 8),none⟩,
 ⟨some 57,.bin .eql (.t 56) (.c (.d (.int .i64 0))),none⟩] [0,5,6,8,57])
 (.cond (.t 57) (.seq (.reg [⟨some 58,.mv (.t 6),none⟩,
 ⟨some 2,.mv (.c .nils),none⟩,
 ⟨some 3,.mv (.t 58),none⟩,
 ⟨some 4,.mv (.c (.d (.int .i64 2))),none⟩] [2,3,4])
 .ret)
 .skip))
 (.reg [⟨some 59,.mv (.t 5),none⟩,
 ⟨some 60,.mv (.t 0),none⟩,
 ⟨some 61,.mv (.t 6),none⟩,
 ⟨some 62,.mv (.t 6),none⟩,
 ⟨some 63,.mv (.t 8),none⟩,
 ⟨some 64,.bin .add (.t 62) (.t 63),none⟩,
 ⟨some 65,.ssl (.t 60) (some (.t 61)) (some (.t 64)),none⟩,
 ⟨some 66,.mv (.t 6),none⟩,
 ⟨some 67,.bld [(.d (.int .i64 0)),(.d (.str [])),(.d (.int .i64 0))] [(0,1,(.c (.d (.int .i64 5)))),(1,1,(.t 65)),(2,1,(.t 66))],none⟩,
 ⟨some 68,.bsl 3 1 [(.d (.int .i64 0)),(.d (.str [])),(.d (.int .i64 0))] [(0,3,(.t 67))],none⟩,
 ⟨some 69,.app 87 3 32 (.t 59) (.t 68),none⟩,
 ⟨some 5,.mv (.t 69),none⟩] [0,5,6,8]))))))))
 (.reg [⟨some 191,.mv (.t 6),none⟩,
 ⟨some 192,.mv (.t 8),none⟩,
 ⟨some 193,.bin .add (.t 191) (.t 192),none⟩,
 ⟨some 6,.mv (.t 193),none⟩] [0,5,6]))))))))
def c_r3_Split : C := (.seq (.reg [⟨some 2,.mv (.c .nils),none⟩,
 ⟨some 3,.mv (.c (.d (.int .i64 0))),none⟩,
 ⟨some 4,.mv (.c (.d (.int .i64 0))),none⟩] [0])
 (.seq (.seq (.reg [⟨some 12,.mv (.t 0),none⟩,
 ⟨some 13,.slen (.t 12),none⟩,
 ⟨some 14,.bin .gtr (.t 13) (.c (.d (.int .i64 16384))),none⟩] [0,14])
 (.cond (.t 14) (.seq (.reg [⟨some 2,.mv (.c .nils),none⟩,
 ⟨some 3,.mv (.c (.d (.int .i64 0))),none⟩,
 ⟨some 4,.mv (.c (.d (.int .i64 9))),none⟩] [2,3,4])
 .ret)
 .skip))
 (.seq (.reg [⟨some 5,.mv (.c .nils),none⟩] [0,5])
 (.seq (.seq (.reg [⟨some 6,.mv (.c (.d (.int .i64 0))),none⟩] [0,5,6])
 (.block 0 (.loop c_r3_Split_L3)))
 (.seq (.reg [⟨some 194,.mv (.t 5),none⟩,
 ⟨some 195,.mv (.t 0),none⟩,
 ⟨some 196,.slen (.t 195),none⟩,
 ⟨some 197,.bld [(.d (.int .i64 0)),(.d (.str [])),(.d (.int .i64 0))] [(0,1,(.c (.d (.int .i64 6)))),(1,1,(.c (.d (.str [])))),(2,1,(.t 196))],none⟩,
 ⟨some 198,.bsl 3 1 [(.d (.int .i64 0)),(.d (.str [])),(.d (.int .i64 0))] [(0,3,(.t 197))],none⟩,
 ⟨some 199,.app 87 3 32 (.t 194) (.t 198),none⟩,
 ⟨some 2,.mv (.t 199),none⟩,
 ⟨some 3,.mv (.c (.d (.int .i64 0))),none⟩,
 ⟨some 4,.mv (.c (.d (.int .i64 0))),none⟩] [2,3,4])
 .ret)))))
noncomputable def x_r3_Split : Cx := ⟨Try.prog,33,Try.f33,200,[],[],[.t 2,.t 3,.t 4]⟩
theorem g_r3_Split : Good x_r3_Split := ⟨Try.func33,by kernel_rfl⟩
theorem rs_r3_Split : x_r3_Split.rs = [.t 2,.t 3,.t 4] := rfl
theorem i_r3_Split (hl : args.length ≤ 200) (h : Run x_r3_Split K [.code c_r3_Split] (argF args) E σ) : ACalls Try.prog 33 args σ K :=
  acalls_of (cx := x_r3_Split) (code := Try.f33.body.getD .skip) g_r3_Split (by kernel_rfl) Try.ntmps33 hl (compC_rc x_r3_Split _ (ctOf c_r3_Split) _ [] (by kernel_rfl)) h
def c_r4_primArity : C := (.seq (.reg [⟨some 2,.mv (.c (.d (.int .i64 0))),none⟩] [0])
 (.seq (.reg [⟨some 4,.bsl 1 8 [(.d (.int .i64 0)),(.d (.int .i64 0)),(.d (.int .i64 0)),(.d (.int .i64 0)),(.d (.int .i64 0)),(.d (.int .i64 0)),(.d (.int .i64 0)),(.d (.int .i64 0))] [(0,1,(.c (.d (.int .i64 0)))),(1,1,(.c (.d (.int .i64 2)))),(2,1,(.c (.d (.int .i64 2)))),(3,1,(.c (.d (.int .i64 3)))),(4,1,(.c (.d (.int .i64 1)))),(5,1,(.c (.d (.int .i64 1)))),(6,1,(.c (.d (.int .i64 1)))),(7,1,(.c (.d (.int .i64 2))))],none⟩,
 ⟨some 3,.mv (.t 4),none⟩] [0,3])
 (.seq (.seq (.reg [⟨some 5,.mv (.t 0),none⟩,
 ⟨some 6,.bin .lss (.t 5) (.c (.d (.int .i64 1))),none⟩,
 ⟨some 7,.mv (.t 6),none⟩,
 ⟨some 8,.mv (.t 0),some (7,false)⟩,
 ⟨some 9,.mv (.t 3),some (7,false)⟩,
 ⟨some 10,.len (.t 9),some (7,false)⟩,
 ⟨some 11,.bin .geq (.t 8) (.t 10),some (7,false)⟩,
 ⟨some 12,.pick (.t 7) (.c (.d (.bool true))) (.t 11),none⟩] [0,3,12])
 (.cond (.t 12) (.seq (.reg [⟨some 2,.mv (.c (.d (.int .i64 0))),none⟩] [2])
 .ret)
 .skip))
 (.seq (.reg [⟨some 13,.mv (.t 3),none⟩,
 ⟨some 14,.mv (.t 0),none⟩,
 ⟨some 15,.ix (.t 13) (.t 14) 1,none⟩,
 ⟨some 16,.ld (.t 15) none,none⟩,
 ⟨some 2,.mv (.t 16),none⟩] [2])
 .ret))))
noncomputable def x_r4_primArity : Cx := ⟨Try.prog,34,Try.f34,17,[],[],[.t 2]⟩
theorem g_r4_primArity : Good x_r4_primArity := ⟨Try.func34,by kernel_rfl⟩
theorem rs_r4_primArity : x_r4_primArity.rs = [.t 2] := rfl
theorem i_r4_primArity (hl : args.length ≤ 17) (h : Run x_r4_primArity K [.code c_r4_primArity] (argF args) E σ) : ACalls Try.prog 34 args σ K :=
  acalls_of (cx := x_r4_primArity) (code := Try.f34.body.getD .skip) g_r4_primArity (by kernel_rfl) Try.ntmps34 hl (compC_rc x_r4_primArity _ (ctOf c_r4_primArity) _ [] (by kernel_rfl)) h
def c_syntax_isUpper : C := (.seq (.reg [⟨some 2,.mv (.c (.d (.bool false))),none⟩] [0])
 (.seq (.reg [⟨some 3,.mv (.t 0),none⟩,
 ⟨some 4,.call 64 [(.t 3),(.c (.d (.int .i64 2)))],none⟩,
 ⟨some 2,.mv (.t 4),none⟩] [2])
 .ret))
noncomputable def x_syntax_isUpper : Cx := ⟨Try.prog,58,Try.f58,5,[],[],[.t 2]⟩
theorem g_syntax_isUpper : Good x_syntax_isUpper := ⟨Try.func58,by kernel_rfl⟩
theorem rs_syntax_isUpper : x_syntax_isUpper.rs = [.t 2] := rfl
theorem i_syntax_isUpper (hl : args.length ≤ 5) (h : Run x_syntax_isUpper K [.code c_syntax_isUpper] (argF args) E σ) : ACalls Try.prog 58 args σ K :=
  acalls_of (cx := x_syntax_isUpper) (code := Try.f58.body.getD .skip) g_syntax_isUpper (by kernel_rfl) Try.ntmps58 hl (compC_rc x_syntax_isUpper _ (ctOf c_syntax_isUpper) _ [] (by kernel_rfl)) h
def c_syntax_all_api_ConExpr : C := (.seq (.reg [⟨some 3,.box (.t 1) true,none⟩,
 ⟨some 4,.mv (.c (.d (.bool false))),none⟩] [0,3])
 (.seq (.reg [⟨some 5,.mv (.t 0),none⟩,
 ⟨some 6,.mkf 73 [] [(.t 3)],none⟩,
 ⟨some 7,.call 72 [(.t 5),(.t 6)],none⟩,
 ⟨some 8,.un .not (.t 7),none⟩,
 ⟨some 4,.mv (.t 8),none⟩] [4])
 .ret))
noncomputable def x_syntax_all_api_ConExpr : Cx := ⟨Try.prog,59,Try.f59,9,[3],[],[.t 4]⟩
theorem g_syntax_all_api_ConExpr : Good x_syntax_all_api_ConExpr := ⟨Try.func59,by kernel_rfl⟩
theorem rs_syntax_all_api_ConExpr : x_syntax_all_api_ConExpr.rs = [.t 4] := rfl
theorem i_syntax_all_api_ConExpr (hl : args.length ≤ 9) (h : Run x_syntax_all_api_ConExpr K [.code c_syntax_all_api_ConExpr] (argF args) E σ) : ACalls Try.prog 59 args σ K :=
  acalls_of (cx := x_syntax_all_api_ConExpr) (code := Try.f59.body.getD .skip) g_syntax_all_api_ConExpr (by kernel_rfl) Try.ntmps59 hl (compC_rc x_syntax_all_api_ConExpr _ (ctOf c_syntax_all_api_ConExpr) _ [] (by kernel_rfl)) h
def c_syntax_validData_1 : C := (.seq (.reg [⟨some 1,.box (.t 0) false,none⟩,
 ⟨some 2,.mv (.c (.d (.bool false))),none⟩] [1])
 (.seq (.reg [⟨some 3,.fld (.t 1) 0,none⟩,
 ⟨some 4,.ldl (.t 3) none,none⟩,
 ⟨some 5,.call 58 [(.t 4)],none⟩,
 ⟨some 6,.mv (.t 5),none⟩,
 ⟨some 7,.fld (.t 1) 1,some (6,true)⟩,
 ⟨some 8,.ldl (.t 7) none,some (6,true)⟩,
 ⟨some 9,.len (.t 8),some (6,true)⟩,
 ⟨some 10,.bin .leq (.t 9) (.c (.d (.int .i64 6))),some (6,true)⟩,
 ⟨some 11,.pick (.t 6) (.t 10) (.c (.d (.bool false))),none⟩,
 ⟨some 12,.mv (.t 11),none⟩,
 ⟨some 13,.fld (.t 1) 1,some (12,true)⟩,
 ⟨some 14,.ldl (.t 13) none,some (12,true)⟩,
 ⟨some 15,.call 61 [(.t 14),(.c (.fn 62 [] []))],some (12,true)⟩,
 ⟨some 16,.pick (.t 12) (.t 15) (.c (.d (.bool false))),none⟩,
 ⟨some 2,.mv (.t 16),none⟩] [2])
 .ret))
noncomputable def x_syntax_validData_1 : Cx := ⟨Try.prog,60,Try.f60,17,[300004,300008,300014],[],[.t 2]⟩
theorem g_syntax_validData_1 : Good x_syntax_validData_1 := ⟨Try.func60,by kernel_rfl⟩
theorem rs_syntax_validData_1 : x_syntax_validData_1.rs = [.t 2] := rfl
theorem i_syntax_validData_1 (hl : args.length ≤ 17) (h : Run x_syntax_validData_1 K [.code c_syntax_validData_1] (argF args) E σ) : ACalls Try.prog 60 args σ K :=
  acalls_of (cx := x_syntax_validData_1) (code := Try.f60.body.getD .skip) g_syntax_validData_1 (by kernel_rfl) Try.ntmps60 hl (compC_rc x_syntax_validData_1 _ (ctOf c_syntax_validData_1) _ [] (by kernel_rfl)) h
def c_syntax_all_api_TypeExpr : C := (.seq (.reg [⟨some 3,.box (.t 1) true,none⟩,
 ⟨some 4,.mv (.c (.d (.bool false))),none⟩] [0,3])
 (.seq (.reg [⟨some 5,.mv (.t 0),none⟩,
 ⟨some 6,.mkf 75 [] [(.t 3)],none⟩,
 ⟨some 7,.call 74 [(.t 5),(.t 6)],none⟩,
 ⟨some 8,.un .not (.t 7),none⟩,
 ⟨some 4,.mv (.t 8),none⟩] [4])
 .ret))
noncomputable def x_syntax_all_api_TypeExpr : Cx := ⟨Try.prog,61,Try.f61,9,[3],[],[.t 4]⟩
theorem g_syntax_all_api_TypeExpr : Good x_syntax_all_api_TypeExpr := ⟨Try.func61,by kernel_rfl⟩
theorem rs_syntax_all_api_TypeExpr : x_syntax_all_api_TypeExpr.rs = [.t 4] := rfl
theorem i_syntax_all_api_TypeExpr (hl : args.length ≤ 9) (h : Run x_syntax_all_api_TypeExpr K [.code c_syntax_all_api_TypeExpr] (argF args) E σ) : ACalls Try.prog 61 args σ K :=
  acalls_of (cx := x_syntax_all_api_TypeExpr) (code := Try.f61.body.getD .skip) g_syntax_all_api_TypeExpr (by kernel_rfl) Try.ntmps61 hl (compC_rc x_syntax_all_api_TypeExpr _ (ctOf c_syntax_all_api_TypeExpr) _ [] (by kernel_rfl)) h
def c_syntax_validData_1_1 : C := (.seq (.reg [⟨some 1,.box (.t 0) false,none⟩,
 ⟨some 2,.mv (.c (.d (.bool false))),none⟩] [1])
 (.seq (.reg [⟨some 3,.ldl (.t 1) (some 3),none⟩,
 ⟨some 4,.call 63 [(.t 3),(.c (.d (.int .i64 1)))],none⟩,
 ⟨some 2,.mv (.t 4),none⟩] [2])
 .ret))
noncomputable def x_syntax_validData_1_1 : Cx := ⟨Try.prog,62,Try.f62,5,[300003],[],[.t 2]⟩
theorem g_syntax_validData_1_1 : Good x_syntax_validData_1_1 := ⟨Try.func62,by kernel_rfl⟩
theorem rs_syntax_validData_1_1 : x_syntax_validData_1_1.rs = [.t 2] := rfl
theorem i_syntax_validData_1_1 (hl : args.length ≤ 5) (h : Run x_syntax_validData_1_1 K [.code c_syntax_validData_1_1] (argF args) E σ) : ACalls Try.prog 62 args σ K :=
  acalls_of (cx := x_syntax_validData_1_1) (code := Try.f62.body.getD .skip) g_syntax_validData_1_1 (by kernel_rfl) Try.ntmps62 hl (compC_rc x_syntax_validData_1_1 _ (ctOf c_syntax_validData_1_1) _ [] (by kernel_rfl)) h
def c_syntax_validType : C := (.seq (.reg [⟨some 2,.box (.t 0) false,none⟩,
 ⟨some 3,.box (.t 1) true,none⟩,
 ⟨some 4,.mv (.c (.d (.bool false))),none⟩] [2,3])
 (.seq (.seq (.reg [⟨some 7,.ld (.t 3) none,none⟩,
 ⟨some 8,.bin .gtr (.t 7) (.c (.d (.int .i64 40))),none⟩] [2,3,8])
 (.cond (.t 8) (.seq (.reg [⟨some 4,.mv (.c (.d (.bool false))),none⟩] [4])
 .ret)
 .skip))
 (.seq (.reg [⟨some 5,.mv (.c (.d (.int .i64 0))),none⟩,
 ⟨some 6,.mv (.c (.d (.int .i64 0))),none⟩] [2,3,5,6])
 (.seq (.seq (.reg [⟨some 9,.fld (.t 2) 0,none⟩,
 ⟨some 10,.ldl (.t 9) none,none⟩] [2,3,5,6,10])
 (.block 0 (.seq (.seq (.reg [⟨some 12,.bin .eql (.t 10) (.c (.d (.int .i64 1))),none⟩,
 ⟨some 11,.mv (.t 12),none⟩] [2,3,5,6,10,11])
 (.cond (.t 11) .skip
 (.seq (.reg [⟨some 13,.bin .eql (.t 10) (.c (.d (.int .i64 2))),none⟩,
 ⟨some 11,.mv (.t 13),none⟩] [2,3,5,6,10,11])
 (.cond (.t 11) .skip
 (.reg [⟨some 14,.bin .eql (.t 10) (.c (.d (.int .i64 3))),none⟩,
 ⟨some 11,.mv (.t 14),none⟩] [2,3,5,6,10,11])))))
 (.cond (.t 11) .skip
 (.seq (.reg [⟨some 16,.bin .eql (.t 10) (.c (.d (.int .i64 4))),none⟩,
 ⟨some 15,.mv (.t 16),none⟩] [2,3,5,6,10,15])
 (.cond (.t 15) (.seq (.reg [⟨some 17,.fld (.t 2) 1,none⟩,
 ⟨some 18,.ldl (.t 17) none,none⟩,
 ⟨some 19,.call 51 [(.t 18)],none⟩,
 ⟨some 20,.un .not (.t 19),none⟩] [2,3,5,6,20])
 (.cond (.t 20) (.seq (.reg [⟨some 4,.mv (.c (.d (.bool false))),none⟩] [4])
 .ret)
 .skip))
 (.seq (.reg [⟨some 22,.bin .eql (.t 10) (.c (.d (.int .i64 5))),none⟩,
 ⟨some 21,.mv (.t 22),none⟩] [2,3,5,10,21])
 (.cond (.t 21) (.seq (.seq (.reg [⟨some 23,.fld (.t 2) 1,none⟩,
 ⟨some 24,.ldl (.t 23) none,none⟩,
 ⟨some 25,.call 58 [(.t 24)],none⟩,
 ⟨some 26,.un .not (.t 25),none⟩] [2,3,5,26])
 (.cond (.t 26) (.seq (.reg [⟨some 4,.mv (.c (.d (.bool false))),none⟩] [4])
 .ret)
 .skip))
 (.reg [⟨some 6,.mv (.c (.d (.int .i64 6))),none⟩] [2,3,5,6]))
 (.seq (.reg [⟨some 28,.bin .eql (.t 10) (.c (.d (.int .i64 6))),none⟩,
 ⟨some 27,.mv (.t 28),none⟩] [2,3,10,27])
 (.cond (.t 27) (.reg [⟨some 5,.mv (.c (.d (.int .i64 2))),none⟩,
 ⟨some 6,.mv (.c (.d (.int .i64 6))),none⟩] [2,3,5,6])
 (.seq (.seq (.reg [⟨some 30,.bin .eql (.t 10) (.c (.d (.int .i64 7))),none⟩,
 ⟨some 29,.mv (.t 30),none⟩] [2,3,10,29])
 (.cond (.t 29) .skip
 (.reg [⟨some 31,.bin .eql (.t 10) (.c (.d (.int .i64 8))),none⟩,
 ⟨some 29,.mv (.t 31),none⟩] [2,3,10,29])))
 (.cond (.t 29) (.reg [⟨some 5,.mv (.c (.d (.int .i64 1))),none⟩,
 ⟨some 6,.mv (.c (.d (.int .i64 1))),none⟩] [2,3,5,6])
 (.seq (.reg [⟨some 33,.bin .eql (.t 10) (.c (.d (.int .i64 9))),none⟩,
 ⟨some 32,.mv (.t 33),none⟩] [2,3,32])
 (.cond (.t 32) (.reg [⟨some 5,.mv (.c (.d (.int .i64 1))),none⟩,
 ⟨some 6,.mv (.c (.d (.int .i64 7))),none⟩] [2,3,5,6])
 (.seq (.reg [⟨some 4,.mv (.c (.d (.bool false))),none⟩] [4])
 .ret)))))))))))))))
 (.seq (.seq (.reg [⟨some 34,.fld (.t 2) 0,none⟩,
 ⟨some 35,.ldl (.t 34) none,none⟩,
 ⟨some 36,.bin .neq (.t 35) (.c (.d (.int .i64 4))),none⟩,
 ⟨some 37,.mv (.t 36),none⟩,
 ⟨some 38,.fld (.t 2) 0,some (37,true)⟩,
 ⟨some 39,.ldl (.t 38) none,some (37,true)⟩,
 ⟨some 40,.bin .neq (.t 39) (.c (.d (.int .i64 5))),some (37,true)⟩,
 ⟨some 41,.pick (.t 37) (.t 40) (.c (.d (.bool false))),none⟩,
 ⟨some 42,.mv (.t 41),none⟩,
 ⟨some 43,.fld (.t 2) 1,some (42,true)⟩,
 ⟨some 44,.ldl (.t 43) none,some (42,true)⟩,
 ⟨some 45,.bin .neq (.t 44) (.c (.d (.str []))),some (42,true)⟩,
 ⟨some 46,.pick (.t 42) (.t 45) (.c (.d (.bool false))),none⟩] [2,3,5,6,46])
 (.cond (.t 46) (.seq (.reg [⟨some 4,.mv (.c (.d (.bool false))),none⟩] [4])
 .ret)
 .skip))
 (.seq (.reg [⟨some 47,.fld (.t 2) 2,none⟩,
 ⟨some 48,.ldl (.t 47) none,none⟩,
 ⟨some 49,.len (.t 48),none⟩,
 ⟨some 50,.mv (.t 5),none⟩,
 ⟨some 51,.bin .geq (.t 49) (.t 50),none⟩,
 ⟨some 52,.mv (.t 51),none⟩,
 ⟨some 53,.fld (.t 2) 2,some (52,true)⟩,
 ⟨some 54,.ldl (.t 53) none,some (52,true)⟩,
 ⟨some 55,.len (.t 54),some (52,true)⟩,
 ⟨some 56,.mv (.t 6),some (52,true)⟩,
 ⟨some 57,.bin .leq (.t 55) (.t 56),some (52,true)⟩,
 ⟨some 58,.pick (.t 52) (.t 57) (.c (.d (.bool false))),none⟩,
 ⟨some 59,.mv (.t 58),none⟩,
 ⟨some 60,.fld (.t 2) 2,some (59,true)⟩,
 ⟨some 61,.ldl (.t 60) none,some (59,true)⟩,
 ⟨some 62,.mkf 76 [] [(.t 3)],some (59,true)⟩,
 ⟨some 63,.call 61 [(.t 61),(.t 62)],some (59,true)⟩,
 ⟨some 64,.pick (.t 59) (.t 63) (.c (.d (.bool false))),none⟩,
 ⟨some 4,.mv (.t 64),none⟩] [4])
 .ret))))))
noncomputable def x_syntax_validType : Cx := ⟨Try.prog,63,Try.f63,65,[3,300010,300018,300024,300035,300039,300044,300048,300054,300061],[],[.t 4]⟩
theorem g_syntax_validType : Good x_syntax_validType := ⟨Try.func63,by kernel_rfl⟩
theorem rs_syntax_validType : x_syntax_validType.rs = [.t 4] := rfl
theorem i_syntax_validType (hl : args.length ≤ 65) (h : Run x_syntax_validType K [.code c_syntax_validType] (argF args) E σ) : ACalls Try.prog 63 args σ K :=
  acalls_of (cx := x_syntax_validType) (code := Try.f63.body.getD .skip) g_syntax_validType (by kernel_rfl) Try.ntmps63 hl (compC_rc x_syntax_validType _ (ctOf c_syntax_validType) _ [] (by kernel_rfl)) h
def c_syntax_isToken : C := (.seq (.reg [⟨some 4,.mv (.c (.d (.bool false))),none⟩] [0,1])
 (.seq (.reg [⟨some 9,.mv (.t 0),none⟩,
 ⟨some 10,.call 77 [(.t 9)],none⟩,
 ⟨some 8,.mv (.t 10),none⟩,
 ⟨some 11,.ext (.t 8) 0,none⟩,
 ⟨some 12,.ext (.t 8) 1,none⟩,
 ⟨some 13,.ext (.t 8) 2,none⟩,
 ⟨some 5,.mv (.t 11),none⟩,
 ⟨some 6,.mv (.t 12),none⟩,
 ⟨some 7,.mv (.t 13),none⟩] [0,1,5,7])
 (.seq (.reg [⟨some 14,.mv (.t 7),none⟩,
 ⟨some 15,.bin .eql (.t 14) (.c (.d (.int .i64 0))),none⟩,
 ⟨some 16,.mv (.t 15),none⟩,
 ⟨some 17,.mv (.t 5),some (16,true)⟩,
 ⟨some 18,.len (.t 17),some (16,true)⟩,
 ⟨some 19,.bin .eql (.t 18) (.c (.d (.int .i64 2))),some (16,true)⟩,
 ⟨some 20,.pick (.t 16) (.t 19) (.c (.d (.bool false))),none⟩,
 ⟨some 21,.mv (.t 20),none⟩,
 ⟨some 22,.mv (.t 5),some (21,true)⟩,
 ⟨some 23,.ix (.t 22) (.c (.d (.int .i64 0))) 3,some (21,true)⟩,
 ⟨some 24,.fld (.t 23) 0,some (21,true)⟩,
 ⟨some 25,.ld (.t 24) none,some (21,true)⟩,
 ⟨some 26,.mv (.t 1),some (21,true)⟩,
 ⟨some 27,.bin .eql (.t 25) (.t 26),some (21,true)⟩,
 ⟨some 28,.pick (.t 21) (.t 27) (.c (.d (.bool false))),none⟩,
 ⟨some 29,.mv (.t 28),none⟩,
 ⟨some 30,.mv (.t 5),some (29,true)⟩,
 ⟨some 31,.ix (.t 30) (.c (.d (.int .i64 0))) 3,some (29,true)⟩,
 ⟨some 32,.fld (.t 31) 1,some (29,true)⟩,
 ⟨some 33,.ld (.t 32) none,some (29,true)⟩,
 ⟨some 34,.mv (.t 0),some (29,true)⟩,
 ⟨some 35,.bin .eql (.t 33) (.t 34),some (29,true)⟩,
 ⟨some 36,.pick (.t 29) (.t 35) (.c (.d (.bool false))),none⟩,
 ⟨some 4,.mv (.t 36),none⟩] [4])
 .ret)))
noncomputable def x_syntax_isToken : Cx := ⟨Try.prog,64,Try.f64,37,[],[],[.t 4]⟩
theorem g_syntax_isToken : Good x_syntax_isToken := ⟨Try.func64,by kernel_rfl⟩
theorem rs_syntax_isToken : x_syntax_isToken.rs = [.t 4] := rfl
theorem i_syntax_isToken (hl : args.length ≤ 37) (h : Run x_syntax_isToken K [.code c_syntax_isToken] (argF args) E σ) : ACalls Try.prog 64 args σ K :=
  acalls_of (cx := x_syntax_isToken) (code := Try.f64.body.getD .skip) g_syntax_isToken (by kernel_rfl) Try.ntmps64 hl (compC_rc x_syntax_isToken _ (ctOf c_syntax_isToken) _ [] (by kernel_rfl)) h
def c_slices_ContainsFunc_string : C := (.seq (.reg [⟨some 4,.mv (.c (.d (.bool false))),none⟩] [0,1])
 (.seq (.reg [⟨some 5,.mv (.t 0),none⟩,
 ⟨some 6,.mv (.t 1),none⟩,
 ⟨some 7,.call 78 [(.t 5),(.t 6)],none⟩,
 ⟨some 8,.bin .geq (.t 7) (.c (.d (.int .i64 0))),none⟩,
 ⟨some 4,.mv (.t 8),none⟩] [4])
 .ret))
noncomputable def x_slices_ContainsFunc_string : Cx := ⟨Try.prog,65,Try.f65,9,[],[],[.t 4]⟩
theorem g_slices_ContainsFunc_string : Good x_slices_ContainsFunc_string := ⟨Try.func65,by kernel_rfl⟩
theorem rs_slices_ContainsFunc_string : x_slices_ContainsFunc_string.rs = [.t 4] := rfl
theorem i_slices_ContainsFunc_string (hl : args.length ≤ 9) (h : Run x_slices_ContainsFunc_string K [.code c_slices_ContainsFunc_string] (argF args) E σ) : ACalls Try.prog 65 args σ K :=
  acalls_of (cx := x_slices_ContainsFunc_string) (code := Try.f65.body.getD .skip) g_slices_ContainsFunc_string (by kernel_rfl) Try.ntmps65 hl (compC_rc x_slices_ContainsFunc_string _ (ctOf c_slices_ContainsFunc_string) _ [] (by kernel_rfl)) h
def c_syntax_all_1_string : C := (.seq (.reg [⟨some 3,.mv (.c (.d (.bool false))),none⟩] [0,1])
 (.seq (.reg [⟨some 4,.ld (.t 1) none,none⟩,
 ⟨some 5,.mv (.t 0),none⟩,
 ⟨some 6,.callv (.t 4) [(.t 5)],none⟩,
 ⟨some 7,.un .not (.t 6),none⟩,
 ⟨some 3,.mv (.t 7),none⟩] [3])
 .ret))
noncomputable def x_syntax_all_1_string : Cx := ⟨Try.prog,66,Try.f66,8,[],[],[.t 3]⟩
theorem g_syntax_all_1_string : Good x_syntax_all_1_string := ⟨Try.func66,by kernel_rfl⟩
theorem rs_syntax_all_1_string : x_syntax_all_1_string.rs = [.t 3] := rfl
theorem i_syntax_all_1_string (hl : args.length ≤ 8) (h : Run x_syntax_all_1_string K [.code c_syntax_all_1_string] (argF args) E σ) : ACalls Try.prog 66 args σ K :=
  acalls_of (cx := x_syntax_all_1_string) (code := Try.f66.body.getD .skip) g_syntax_all_1_string (by kernel_rfl) Try.ntmps66 hl (compC_rc x_syntax_all_1_string _ (ctOf c_syntax_all_1_string) _ [] (by kernel_rfl)) h
def c_syntax_validNode : C := (.seq (.reg [⟨some 1,.box (.t 0) false,none⟩,
 ⟨some 2,.mv (.c (.d (.bool false))),none⟩] [1])
 (.seq (.reg [⟨some 7,.fld (.t 1) 4,none⟩,
 ⟨some 8,.ldl (.t 7) none,none⟩,
 ⟨some 9,.len (.t 8),none⟩,
 ⟨some 3,.mv (.t 9),none⟩] [1,3])
 (.seq (.reg [⟨some 10,.ldl (.t 1) (some 6),none⟩,
 ⟨some 4,.al [(.d (.int .i64 0)),(.d (.str [])),(.d (.int .i64 0)),.nils,.nils,.nils] false,none⟩,
 ⟨none,.st (.t 4) (.t 10) 6,none⟩] [1,3,4])
 (.seq (.seq (.reg [⟨some 11,.fld (.t 1) 0,none⟩,
 ⟨some 12,.ldl (.t 11) none,none⟩] [1,3,4,12])
 (.block 0 (.seq (.seq (.reg [⟨some 14,.bin .eql (.t 12) (.c (.d (.int .i64 1))),none⟩,
 ⟨some 13,.mv (.t 14),none⟩] [1,3,4,12,13])
 (.cond (.t 13) .skip
 (.seq (.reg [⟨some 15,.bin .eql (.t 12) (.c (.d (.int .i64 2))),none⟩,
 ⟨some 13,.mv (.t 15),none⟩] [1,3,4,12,13])
 (.cond (.t 13) .skip
 (.seq (.reg [⟨some 16,.bin .eql (.t 12) (.c (.d (.int .i64 3))),none⟩,
 ⟨some 13,.mv (.t 16),none⟩] [1,3,4,12,13])
 (.cond (.t 13) .skip
 (.seq (.reg [⟨some 17,.bin .eql (.t 12) (.c (.d (.int .i64 15))),none⟩,
 ⟨some 13,.mv (.t 17),none⟩] [1,3,4,12,13])
 (.cond (.t 13) .skip
 (.reg [⟨some 18,.bin .eql (.t 12) (.c (.d (.int .i64 4))),none⟩,
 ⟨some 13,.mv (.t 18),none⟩] [1,3,4,12,13])))))))))
 (.cond (.t 13) (.seq (.reg [⟨some 19,.mv (.t 3),none⟩,
 ⟨some 20,.bin .eql (.t 19) (.c (.d (.int .i64 0))),none⟩,
 ⟨some 21,.mv (.t 20),none⟩,
 ⟨some 22,.ldl (.t 1) (some 6),some (21,true)⟩,
 ⟨some 23,.call 79 [(.t 22)],some (21,true)⟩,
 ⟨some 24,.pick (.t 21) (.t 23) (.c (.d (.bool false))),none⟩,
 ⟨some 2,.mv (.t 24),none⟩] [2])
 .ret)
 (.seq (.reg [⟨some 26,.bin .eql (.t 12) (.c (.d (.int .i64 5))),none⟩,
 ⟨some 25,.mv (.t 26),none⟩] [1,3,4,12,25])
 (.cond (.t 25) (.seq (.reg [⟨some 27,.mv (.t 3),none⟩,
 ⟨some 28,.bin .geq (.t 27) (.c (.d (.int .i64 2))),none⟩,
 ⟨some 29,.mv (.t 28),none⟩,
 ⟨some 30,.mv (.t 3),some (29,true)⟩,
 ⟨some 31,.bin .leq (.t 30) (.c (.d (.int .i64 6))),some (29,true)⟩,
 ⟨some 32,.pick (.t 29) (.t 31) (.c (.d (.bool false))),none⟩,
 ⟨some 33,.mv (.t 32),none⟩,
 ⟨some 34,.ldl (.t 1) (some 6),some (33,true)⟩,
 ⟨some 35,.call 80 [(.t 34)],some (33,true)⟩,
 ⟨some 36,.pick (.t 33) (.t 35) (.c (.d (.bool false))),none⟩,
 ⟨some 2,.mv (.t 36),none⟩] [2])
 .ret)
 (.seq (.reg [⟨some 38,.bin .eql (.t 12) (.c (.d (.int .i64 6))),none⟩,
 ⟨some 37,.mv (.t 38),none⟩] [1,3,4,12,37])
 (.cond (.t 37) (.seq (.reg [⟨some 39,.fld (.t 4) 1,none⟩,
 ⟨none,.st (.t 39) (.c (.d (.str []))) 1,none⟩] [1,3,4])
 (.seq (.reg [⟨some 40,.mv (.t 3),none⟩,
 ⟨some 41,.bin .leq (.t 40) (.c (.d (.int .i64 6))),none⟩,
 ⟨some 42,.mv (.t 41),none⟩,
 ⟨some 43,.fld (.t 1) 1,some (42,true)⟩,
 ⟨some 44,.ldl (.t 43) none,some (42,true)⟩,
 ⟨some 45,.call 58 [(.t 44)],some (42,true)⟩,
 ⟨some 46,.pick (.t 42) (.t 45) (.c (.d (.bool false))),none⟩,
 ⟨some 47,.mv (.t 46),none⟩,
 ⟨some 48,.ldl (.t 4) (some 6),some (47,true)⟩,
 ⟨some 49,.call 80 [(.t 48)],some (47,true)⟩,
 ⟨some 50,.pick (.t 47) (.t 49) (.c (.d (.bool false))),none⟩,
 ⟨some 2,.mv (.t 50),none⟩] [2])
 .ret))
 (.seq (.seq (.reg [⟨some 52,.bin .eql (.t 12) (.c (.d (.int .i64 7))),none⟩,
 ⟨some 51,.mv (.t 52),none⟩] [1,3,4,12,51])
 (.cond (.t 51) .skip
 (.reg [⟨some 53,.bin .eql (.t 12) (.c (.d (.int .i64 17))),none⟩,
 ⟨some 51,.mv (.t 53),none⟩] [1,3,4,12,51])))
 (.cond (.t 51) (.seq (.reg [⟨some 54,.fld (.t 4) 1,none⟩,
 ⟨none,.st (.t 54) (.c (.d (.str []))) 1,none⟩] [1,3,4])
 (.seq (.reg [⟨some 55,.mv (.t 3),none⟩,
 ⟨some 56,.bin .eql (.t 55) (.c (.d (.int .i64 2))),none⟩,
 ⟨some 57,.mv (.t 56),none⟩,
 ⟨some 58,.fld (.t 1) 1,some (57,true)⟩,
 ⟨some 59,.ldl (.t 58) none,some (57,true)⟩,
 ⟨some 60,.call 81 [(.t 59)],some (57,true)⟩,
 ⟨some 61,.pick (.t 57) (.t 60) (.c (.d (.bool false))),none⟩,
 ⟨some 62,.mv (.t 61),none⟩,
 ⟨some 63,.ldl (.t 4) (some 6),some (62,true)⟩,
 ⟨some 64,.call 80 [(.t 63)],some (62,true)⟩,
 ⟨some 65,.pick (.t 62) (.t 64) (.c (.d (.bool false))),none⟩,
 ⟨some 2,.mv (.t 65),none⟩] [2])
 .ret))
 (.seq (.reg [⟨some 67,.bin .eql (.t 12) (.c (.d (.int .i64 8))),none⟩,
 ⟨some 66,.mv (.t 67),none⟩] [1,3,4,12,66])
 (.cond (.t 66) (.seq (.reg [⟨some 68,.fld (.t 4) 3,none⟩,
 ⟨none,.st (.t 68) (.c .nils) 1,none⟩] [1,3,4])
 (.seq (.reg [⟨some 69,.mv (.t 3),none⟩,
 ⟨some 70,.bin .eql (.t 69) (.c (.d (.int .i64 2))),none⟩,
 ⟨some 71,.mv (.t 70),none⟩,
 ⟨some 72,.fld (.t 1) 3,some (71,true)⟩,
 ⟨some 73,.ldl (.t 72) none,some (71,true)⟩,
 ⟨some 74,.len (.t 73),some (71,true)⟩,
 ⟨some 75,.bin .geq (.t 74) (.c (.d (.int .i64 2))),some (71,true)⟩,
 ⟨some 76,.pick (.t 71) (.t 75) (.c (.d (.bool false))),none⟩,
 ⟨some 77,.mv (.t 76),none⟩,
 ⟨some 78,.fld (.t 1) 3,some (77,true)⟩,
 ⟨some 79,.ldl (.t 78) none,some (77,true)⟩,
 ⟨some 80,.len (.t 79),some (77,true)⟩,
 ⟨some 81,.bin .leq (.t 80) (.c (.d (.int .i64 6))),some (77,true)⟩,
 ⟨some 82,.pick (.t 77) (.t 81) (.c (.d (.bool false))),none⟩,
 ⟨some 83,.mv (.t 82),none⟩,
 ⟨some 84,.fld (.t 1) 3,some (83,true)⟩,
 ⟨some 85,.ldl (.t 84) none,some (83,true)⟩,
 ⟨some 86,.call 52 [(.t 85),(.c (.fn 81 [] []))],some (83,true)⟩,
 ⟨some 87,.pick (.t 83) (.t 86) (.c (.d (.bool false))),none⟩,
 ⟨some 88,.mv (.t 87),none⟩,
 ⟨some 89,.ldl (.t 4) (some 6),some (88,true)⟩,
 ⟨some 90,.call 80 [(.t 89)],some (88,true)⟩,
 ⟨some 91,.pick (.t 88) (.t 90) (.c (.d (.bool false))),none⟩,
 ⟨some 2,.mv (.t 91),none⟩] [2])
 .ret))
 (.seq (.reg [⟨some 93,.bin .eql (.t 12) (.c (.d (.int .i64 9))),none⟩,
 ⟨some 92,.mv (.t 93),none⟩] [1,3,4,12,92])
 (.cond (.t 92) (.seq (.reg [⟨some 94,.mv (.t 3),none⟩,
 ⟨some 95,.bin .eql (.t 94) (.c (.d (.int .i64 3))),none⟩,
 ⟨some 96,.mv (.t 95),none⟩,
 ⟨some 97,.ldl (.t 1) (some 6),some (96,true)⟩,
 ⟨some 98,.call 80 [(.t 97)],some (96,true)⟩,
 ⟨some 99,.pick (.t 96) (.t 98) (.c (.d (.bool false))),none⟩,
 ⟨some 2,.mv (.t 99),none⟩] [2])
 .ret)
 (.seq (.reg [⟨some 101,.bin .eql (.t 12) (.c (.d (.int .i64 10))),none⟩,
 ⟨some 100,.mv (.t 101),none⟩] [1,3,4,12,100])
 (.cond (.t 100) (.seq (.reg [⟨some 102,.fld (.t 4) 5,none⟩,
 ⟨none,.st (.t 102) (.c .nils) 1,none⟩] [1,3,4])
 (.seq (.reg [⟨some 103,.mv (.t 3),none⟩,
 ⟨some 104,.bin .eql (.t 103) (.c (.d (.int .i64 1))),none⟩,
 ⟨some 105,.mv (.t 104),none⟩,
 ⟨some 106,.fld (.t 1) 5,some (105,true)⟩,
 ⟨some 107,.ldl (.t 106) none,some (105,true)⟩,
 ⟨some 108,.len (.t 107),some (105,true)⟩,
 ⟨some 109,.bin .geq (.t 108) (.c (.d (.int .i64 1))),some (105,true)⟩,
 ⟨some 110,.pick (.t 105) (.t 109) (.c (.d (.bool false))),none⟩,
 ⟨some 111,.mv (.t 110),none⟩,
 ⟨some 112,.fld (.t 1) 5,some (111,true)⟩,
 ⟨some 113,.ldl (.t 112) none,some (111,true)⟩,
 ⟨some 114,.call 82 [(.t 113),(.c (.fn 83 [] []))],some (111,true)⟩,
 ⟨some 115,.pick (.t 111) (.t 114) (.c (.d (.bool false))),none⟩,
 ⟨some 116,.mv (.t 115),none⟩,
 ⟨some 117,.ldl (.t 4) (some 6),some (116,true)⟩,
 ⟨some 118,.call 80 [(.t 117)],some (116,true)⟩,
 ⟨some 119,.pick (.t 116) (.t 118) (.c (.d (.bool false))),none⟩,
 ⟨some 2,.mv (.t 119),none⟩] [2])
 .ret))
 (.seq (.reg [⟨some 121,.bin .eql (.t 12) (.c (.d (.int .i64 11))),none⟩,
 ⟨some 120,.mv (.t 121),none⟩] [1,3,4,12,120])
 (.cond (.t 120) (.seq (.reg [⟨some 122,.fld (.t 4) 3,none⟩,
 ⟨none,.st (.t 122) (.c .nils) 1,none⟩] [1,3,4])
 (.seq (.reg [⟨some 123,.mv (.t 3),none⟩,
 ⟨some 124,.bin .eql (.t 123) (.c (.d (.int .i64 1))),none⟩,
 ⟨some 125,.mv (.t 124),none⟩,
 ⟨some 126,.fld (.t 1) 3,some (125,true)⟩,
 ⟨some 127,.ldl (.t 126) none,some (125,true)⟩,
 ⟨some 128,.len (.t 127),some (125,true)⟩,
 ⟨some 129,.bin .leq (.t 128) (.c (.d (.int .i64 6))),some (125,true)⟩,
 ⟨some 130,.pick (.t 125) (.t 129) (.c (.d (.bool false))),none⟩,
 ⟨some 131,.mv (.t 130),none⟩,
 ⟨some 132,.fld (.t 1) 3,some (131,true)⟩,
 ⟨some 133,.ldl (.t 132) none,some (131,true)⟩,
 ⟨some 134,.call 52 [(.t 133),(.c (.fn 51 [] []))],some (131,true)⟩,
 ⟨some 135,.pick (.t 131) (.t 134) (.c (.d (.bool false))),none⟩,
 ⟨some 136,.mv (.t 135),none⟩,
 ⟨some 137,.ldl (.t 4) (some 6),some (136,true)⟩,
 ⟨some 138,.call 80 [(.t 137)],some (136,true)⟩,
 ⟨some 139,.pick (.t 136) (.t 138) (.c (.d (.bool false))),none⟩,
 ⟨some 2,.mv (.t 139),none⟩] [2])
 .ret))
 (.seq (.reg [⟨some 141,.bin .eql (.t 12) (.c (.d (.int .i64 12))),none⟩,
 ⟨some 140,.mv (.t 141),none⟩] [1,3,4,12,140])
 (.cond (.t 140) (.seq (.reg [⟨some 142,.mv (.t 3),none⟩,
 ⟨some 143,.bin .geq (.t 142) (.c (.d (.int .i64 1))),none⟩,
 ⟨some 144,.mv (.t 143),none⟩,
 ⟨some 145,.mv (.t 3),some (144,true)⟩,
 ⟨some 146,.bin .leq (.t 145) (.c (.d (.int .i64 7))),some (144,true)⟩,
 ⟨some 147,.pick (.t 144) (.t 146) (.c (.d (.bool false))),none⟩,
 ⟨some 148,.mv (.t 147),none⟩,
 ⟨some 149,.ldl (.t 1) (some 6),some (148,true)⟩,
 ⟨some 150,.call 80 [(.t 149)],some (148,true)⟩,
 ⟨some 151,.pick (.t 148) (.t 150) (.c (.d (.bool false))),none⟩,
 ⟨some 2,.mv (.t 151),none⟩] [2])
 .ret)
 (.seq (.reg [⟨some 153,.bin .eql (.t 12) (.c (.d (.int .i64 13))),none⟩,
 ⟨some 152,.mv (.t 153),none⟩] [1,3,4,12,152])
 (.cond (.t 152) (.seq (.reg [⟨some 154,.fld (.t 4) 2,none⟩,
 ⟨none,.st (.t 154) (.c (.d (.int .i64 0))) 1,none⟩] [1,3,4])
 (.seq (.reg [⟨some 155,.mv (.t 3),none⟩,
 ⟨some 156,.bin .eql (.t 155) (.c (.d (.int .i64 2))),none⟩,
 ⟨some 157,.mv (.t 156),none⟩,
 ⟨some 158,.fld (.t 1) 2,some (157,true)⟩,
 ⟨some 159,.ldl (.t 158) none,some (157,true)⟩,
 ⟨some 160,.call 84 [(.t 159),(.c (.d (.int .i64 1))),(.c (.d (.int .i64 8)))],some (157,true)⟩,
 ⟨some 161,.pick (.t 157) (.t 160) (.c (.d (.bool false))),none⟩,
 ⟨some 162,.mv (.t 161),none⟩,
 ⟨some 163,.ldl (.t 4) (some 6),some (162,true)⟩,
 ⟨some 164,.call 80 [(.t 163)],some (162,true)⟩,
 ⟨some 165,.pick (.t 162) (.t 164) (.c (.d (.bool false))),none⟩,
 ⟨some 2,.mv (.t 165),none⟩] [2])
 .ret))
 (.seq (.reg [⟨some 167,.bin .eql (.t 12) (.c (.d (.int .i64 14))),none⟩,
 ⟨some 166,.mv (.t 167),none⟩] [1,3,4,12,166])
 (.cond (.t 166) (.seq (.reg [⟨some 168,.fld (.t 4) 2,none⟩,
 ⟨none,.st (.t 168) (.c (.d (.int .i64 0))) 1,none⟩] [1,3,4])
 (.seq (.reg [⟨some 170,.fld (.t 1) 2,none⟩,
 ⟨some 171,.ldl (.t 170) none,none⟩,
 ⟨some 172,.call 85 [(.t 171)],none⟩,
 ⟨some 169,.mv (.t 172),none⟩,
 ⟨some 173,.ext (.t 169) 0,none⟩,
 ⟨some 174,.ext (.t 169) 1,none⟩,
 ⟨some 5,.mv (.t 173),none⟩,
 ⟨some 6,.mv (.t 174),none⟩] [3,4,6])
 (.seq (.reg [⟨some 175,.mv (.t 6),none⟩,
 ⟨some 176,.bin .gtr (.t 175) (.c (.d (.int .i64 0))),none⟩,
 ⟨some 177,.mv (.t 176),none⟩,
 ⟨some 178,.mv (.t 3),some (177,true)⟩,
 ⟨some 179,.mv (.t 6),some (177,true)⟩,
 ⟨some 180,.bin .eql (.t 178) (.t 179),some (177,true)⟩,
 ⟨some 181,.pick (.t 177) (.t 180) (.c (.d (.bool false))),none⟩,
 ⟨some 182,.mv (.t 181),none⟩,
 ⟨some 183,.ldl (.t 4) (some 6),some (182,true)⟩,
 ⟨some 184,.call 80 [(.t 183)],some (182,true)⟩,
 ⟨some 185,.pick (.t 182) (.t 184) (.c (.d (.bool false))),none⟩,
 ⟨some 2,.mv (.t 185),none⟩] [2])
 .ret)))
 (.seq (.reg [⟨some 187,.bin .eql (.t 12) (.c (.d (.int .i64 16))),none⟩,
 ⟨some 186,.mv (.t 187),none⟩] [1,3,186])
 (.cond (.t 186) (.seq (.reg [⟨some 188,.mv (.t 3),none⟩,
 ⟨some 189,.bin .eql (.t 188) (.c (.d (.int .i64 1))),none⟩,
 ⟨some 190,.mv (.t 189),none⟩,
 ⟨some 191,.ldl (.t 1) (some 6),some (190,true)⟩,
 ⟨some 192,.call 80 [(.t 191)],some (190,true)⟩,
 ⟨some 193,.pick (.t 190) (.t 192) (.c (.d (.bool false))),none⟩,
 ⟨some 2,.mv (.t 193),none⟩] [2])
 .ret)
 .skip))))))))))))))))))))))))))
 (.seq (.reg [⟨some 2,.mv (.c (.d (.bool false))),none⟩] [2])
 .ret)))))
noncomputable def x_syntax_validNode : Cx := ⟨Try.prog,67,Try.f67,194,[300008,300010,300012,300022,300034,300044,300048,300059,300063,300073,300079,300085,300089,300097,300107,300113,300117,300127,300133,300137,300149,300159,300163,300171,300183,300191],[],[.t 2]⟩
theorem g_syntax_validNode : Good x_syntax_validNode := ⟨Try.func67,by kernel_rfl⟩
theorem rs_syntax_validNode : x_syntax_validNode.rs = [.t 2] := rfl
theorem i_syntax_validNode (hl : args.length ≤ 194) (h : Run x_syntax_validNode K [.code c_syntax_validNode] (argF args) E σ) : ACalls Try.prog 67 args σ K :=
  acalls_of (cx := x_syntax_validNode) (code := Try.f67.body.getD .skip) g_syntax_validNode (by kernel_rfl) Try.ntmps67 hl (compC_rc x_syntax_validNode _ (ctOf c_syntax_validNode) _ [] (by kernel_rfl)) h
def c_r3_lower : C := (.seq (.reg [⟨some 2,.mv (.c (.d (.bool false))),none⟩] [0])
 (.seq (.reg [⟨some 3,.mv (.t 0),none⟩,
 ⟨some 4,.bin .geq (.t 3) (.c (.d (.int .u8 97))),none⟩,
 ⟨some 5,.mv (.t 4),none⟩,
 ⟨some 6,.mv (.t 0),some (5,true)⟩,
 ⟨some 7,.bin .leq (.t 6) (.c (.d (.int .u8 122))),some (5,true)⟩,
 ⟨some 8,.pick (.t 5) (.t 7) (.c (.d (.bool false))),none⟩,
 ⟨some 2,.mv (.t 8),none⟩] [2])
 .ret))
noncomputable def x_r3_lower : Cx := ⟨Try.prog,44,Try.f44,9,[],[],[.t 2]⟩
theorem g_r3_lower : Good x_r3_lower := ⟨Try.func44,by kernel_rfl⟩
theorem rs_r3_lower : x_r3_lower.rs = [.t 2] := rfl
theorem i_r3_lower (hl : args.length ≤ 9) (h : Run x_r3_lower K [.code c_r3_lower] (argF args) E σ) : ACalls Try.prog 44 args σ K :=
  acalls_of (cx := x_r3_lower) (code := Try.f44.body.getD .skip) g_r3_lower (by kernel_rfl) Try.ntmps44 hl (compC_rc x_r3_lower _ (ctOf c_r3_lower) _ [] (by kernel_rfl)) h
def c_r3_upper : C := (.seq (.reg [⟨some 2,.mv (.c (.d (.bool false))),none⟩] [0])
 (.seq (.reg [⟨some 3,.mv (.t 0),none⟩,
 ⟨some 4,.bin .geq (.t 3) (.c (.d (.int .u8 65))),none⟩,
 ⟨some 5,.mv (.t 4),none⟩,
 ⟨some 6,.mv (.t 0),some (5,true)⟩,
 ⟨some 7,.bin .leq (.t 6) (.c (.d (.int .u8 90))),some (5,true)⟩,
 ⟨some 8,.pick (.t 5) (.t 7) (.c (.d (.bool false))),none⟩,
 ⟨some 2,.mv (.t 8),none⟩] [2])
 .ret))
noncomputable def x_r3_upper : Cx := ⟨Try.prog,45,Try.f45,9,[],[],[.t 2]⟩
theorem g_r3_upper : Good x_r3_upper := ⟨Try.func45,by kernel_rfl⟩
theorem rs_r3_upper : x_r3_upper.rs = [.t 2] := rfl
theorem i_r3_upper (hl : args.length ≤ 9) (h : Run x_r3_upper K [.code c_r3_upper] (argF args) E σ) : ACalls Try.prog 45 args σ K :=
  acalls_of (cx := x_r3_upper) (code := Try.f45.body.getD .skip) g_r3_upper (by kernel_rfl) Try.ntmps45 hl (compC_rc x_r3_upper _ (ctOf c_r3_upper) _ [] (by kernel_rfl)) h
def c_r3_digit : C := (.seq (.reg [⟨some 2,.mv (.c (.d (.bool false))),none⟩] [0])
 (.seq (.reg [⟨some 3,.mv (.t 0),none⟩,
 ⟨some 4,.bin .geq (.t 3) (.c (.d (.int .u8 48))),none⟩,
 ⟨some 5,.mv (.t 4),none⟩,
 ⟨some 6,.mv (.t 0),some (5,true)⟩,
 ⟨some 7,.bin .leq (.t 6) (.c (.d (.int .u8 57))),some (5,true)⟩,
 ⟨some 8,.pick (.t 5) (.t 7) (.c (.d (.bool false))),none⟩,
 ⟨some 2,.mv (.t 8),none⟩] [2])
 .ret))
noncomputable def x_r3_digit : Cx := ⟨Try.prog,46,Try.f46,9,[],[],[.t 2]⟩
theorem g_r3_digit : Good x_r3_digit := ⟨Try.func46,by kernel_rfl⟩
theorem rs_r3_digit : x_r3_digit.rs = [.t 2] := rfl
theorem i_r3_digit (hl : args.length ≤ 9) (h : Run x_r3_digit K [.code c_r3_digit] (argF args) E σ) : ACalls Try.prog 46 args σ K :=
  acalls_of (cx := x_r3_digit) (code := Try.f46.body.getD .skip) g_r3_digit (by kernel_rfl) Try.ntmps46 hl (compC_rc x_r3_digit _ (ctOf c_r3_digit) _ [] (by kernel_rfl)) h
def c_r3_Keyword_L0 : C := (.seq (.seq (.reg [⟨some 6,.mv (.t 4),none⟩,
 ⟨some 7,.mv (.t 3),none⟩,
 ⟨some 8,.len (.t 7),none⟩,
 ⟨some 9,.bin .lss (.t 6) (.t 8),none⟩] [0,3,4,9])
 (.cond (.t 9) .skip
 (.exit 0)))
 (.seq (.block 1 (.seq (.reg [⟨some 12,.mv (.t 3),none⟩,
 ⟨some 13,.mv (.t 4),none⟩,
 ⟨some 14,.ix (.t 12) (.t 13) 1,none⟩,
 ⟨some 15,.ld (.t 14) none,none⟩,
 ⟨some 16,.mv (.t 0),none⟩,
 ⟨some 17,.bin .eql (.t 15) (.t 16),none⟩] [0,3,4,17])
 (.cond (.t 17) (.seq (.reg [⟨some 2,.mv (.c (.d (.bool true))),none⟩] [2])
 .ret)
 .skip)))
 (.reg [⟨some 10,.mv (.t 4),none⟩,
 ⟨some 11,.bin .add (.t 10) (.c (.d (.int .i64 1))),none⟩,
 ⟨some 4,.mv (.t 11),none⟩] [0,3,4])))
def c_r3_Keyword : C := (.seq (.reg [⟨some 2,.mv (.c (.d (.bool false))),none⟩] [0])
 (.seq (.reg [⟨some 5,.bsl 1 28 [(.d (.str [])),(.d (.str [])),(.d (.str [])),(.d (.str [])),(.d (.str [])),(.d (.str [])),(.d (.str [])),(.d (.str [])),(.d (.str [])),(.d (.str [])),(.d (.str [])),(.d (.str [])),(.d (.str [])),(.d (.str [])),(.d (.str [])),(.d (.str [])),(.d (.str [])),(.d (.str [])),(.d (.str [])),(.d (.str [])),(.d (.str [])),(.d (.str [])),(.d (.str [])),(.d (.str [])),(.d (.str [])),(.d (.str [])),(.d (.str [])),(.d (.str []))] [(0,1,(.c (.d (.str [97,114,114,97,121])))),(1,1,(.c (.d (.str [98,111,111,108])))),(2,1,(.c (.d (.str [99,97,116,99,104])))),(3,1,(.c (.d (.str [100,97,116,97])))),(4,1,(.c (.d (.str [101,108,115,101])))),(5,1,(.c (.d (.str [101,110,100])))),(6,1,(.c (.d (.str [102,97,108,115,101])))),(7,1,(.c (.d (.str [102,110])))),(8,1,(.c (.d (.str [102,117,110])))),(9,1,(.c (.d (.str [103,101,116])))),(10,1,(.c (.d (.str [105,102])))),(11,1,(.c (.d (.str [105,110])))),(12,1,(.c (.d (.str [105,110,116])))),(13,1,(.c (.d (.str [108,101,110])))),(14,1,(.c (.d (.str [108,101,116])))),(15,1,(.c (.d (.str [109,97,116,99,104])))),(16,1,(.c (.d (.str [110,101,119])))),(17,1,(.c (.d (.str [114,97,105,115,101])))),(18,1,(.c (.d (.str [114,101,97,100])))),(19,1,(.c (.d (.str [114,101,102])))),(20,1,(.c (.d (.str [115,101,116])))),(21,1,(.c (.d (.str [116,104,101,110])))),(22,1,(.c (.d (.str [116,105,99,107])))),(23,1,(.c (.d (.str [116,114,117,101])))),(24,1,(.c (.d (.str [116,114,121])))),(25,1,(.c (.d (.str [117,110,105,116])))),(26,1,(.c (.d (.str [119,105,116,104])))),(27,1,(.c (.d (.str [119,114,105,116,101]))))],none⟩,
 ⟨some 3,.mv (.t 5),none⟩] [0,3])
 (.seq (.seq (.reg [⟨some 4,.mv (.c (.d (.int .i64 0))),none⟩] [0,3,4])
 (.block 0 (.loop c_r3_Keyword_L0)))
 (.seq (.reg [⟨some 2,.mv (.c (.d (.bool false))),none⟩] [2])
 .ret))))
noncomputable def x_r3_Keyword : Cx := ⟨Try.prog,47,Try.f47,18,[],[],[.t 2]⟩
theorem g_r3_Keyword : Good x_r3_Keyword := ⟨Try.func47,by kernel_rfl⟩
theorem rs_r3_Keyword : x_r3_Keyword.rs = [.t 2] := rfl
theorem i_r3_Keyword (hl : args.length ≤ 18) (h : Run x_r3_Keyword K [.code c_r3_Keyword] (argF args) E σ) : ACalls Try.prog 47 args σ K :=
  acalls_of (cx := x_r3_Keyword) (code := Try.f47.body.getD .skip) g_r3_Keyword (by kernel_rfl) Try.ntmps47 hl (compC_rc x_r3_Keyword _ (ctOf c_r3_Keyword) _ [] (by kernel_rfl)) h
def c_r3_Value_L0 : C := (.seq (.seq (.reg [⟨some 6,.mv (.t 5),none⟩,
 ⟨some 7,.mv (.t 0),none⟩,
 ⟨some 8,.slen (.t 7),none⟩,
 ⟨some 9,.bin .lss (.t 6) (.t 8),none⟩] [0,4,5,9])
 (.cond (.t 9) .skip
 (.exit 0)))
 (.seq (.block 1 (.seq (.reg [⟨some 12,.mv (.t 4),none⟩,
 ⟨some 13,.bin .mul (.t 12) (.c (.d (.int .i64 10))),none⟩,
 ⟨some 14,.mv (.t 0),none⟩,
 ⟨some 15,.mv (.t 5),none⟩,
 ⟨some 16,.sidx (.t 14) (.t 15),none⟩,
 ⟨some 17,.bin .sub (.t 16) (.c (.d (.int .u8 48))),none⟩,
 ⟨some 18,.conv .i64 (.t 17),none⟩,
 ⟨some 19,.bin .add (.t 13) (.t 18),none⟩,
 ⟨some 4,.mv (.t 19),none⟩] [0,4,5])
 (.seq (.reg [⟨some 20,.mv (.t 4),none⟩,
 ⟨some 21,.bin .gtr (.t 20) (.c (.d (.int .i64 1000000))),none⟩] [0,4,5,21])
 (.cond (.t 21) (.seq (.reg [⟨some 2,.mv (.c (.d (.int .i64 0))),none⟩,
 ⟨some 3,.mv (.c (.d (.bool false))),none⟩] [2,3])
 .ret)
 .skip))))
 (.reg [⟨some 10,.mv (.t 5),none⟩,
 ⟨some 11,.bin .add (.t 10) (.c (.d (.int .i64 1))),none⟩,
 ⟨some 5,.mv (.t 11),none⟩] [0,4,5])))
def c_r3_Value : C := (.seq (.reg [⟨some 2,.mv (.c (.d (.int .i64 0))),none⟩,
 ⟨some 3,.mv (.c (.d (.bool false))),none⟩] [0])
 (.seq (.reg [⟨some 4,.mv (.c (.d (.int .i64 0))),none⟩] [0,4])
 (.seq (.seq (.reg [⟨some 5,.mv (.c (.d (.int .i64 0))),none⟩] [0,4,5])
 (.block 0 (.loop c_r3_Value_L0)))
 (.seq (.reg [⟨some 22,.mv (.t 4),none⟩,
 ⟨some 2,.mv (.t 22),none⟩,
 ⟨some 3,.mv (.c (.d (.bool true))),none⟩] [2,3])
 .ret))))
noncomputable def x_r3_Value : Cx := ⟨Try.prog,48,Try.f48,23,[],[],[.t 2,.t 3]⟩
theorem g_r3_Value : Good x_r3_Value := ⟨Try.func48,by kernel_rfl⟩
theorem rs_r3_Value : x_r3_Value.rs = [.t 2,.t 3] := rfl
theorem i_r3_Value (hl : args.length ≤ 23) (h : Run x_r3_Value K [.code c_r3_Value] (argF args) E σ) : ACalls Try.prog 48 args σ K :=
  acalls_of (cx := x_r3_Value) (code := Try.f48.body.getD .skip) g_r3_Value (by kernel_rfl) Try.ntmps48 hl (compC_rc x_r3_Value _ (ctOf c_r3_Value) _ [] (by kernel_rfl)) h
def c_r3_sign_L0 : C := (.seq (.seq (.reg [⟨some 23,.mv (.t 4),none⟩,
 ⟨some 24,.mv (.t 3),none⟩,
 ⟨some 25,.slen (.t 24),none⟩,
 ⟨some 26,.bin .lss (.t 23) (.t 25),none⟩] [0,3,4,26])
 (.cond (.t 26) .skip
 (.exit 0)))
 (.seq (.block 1 (.seq (.reg [⟨some 29,.mv (.t 0),none⟩,
 ⟨some 30,.sidx (.t 29) (.c (.d (.int .i64 0))),none⟩,
 ⟨some 31,.mv (.t 3),none⟩,
 ⟨some 32,.mv (.t 4),none⟩,
 ⟨some 33,.sidx (.t 31) (.t 32),none⟩,
 ⟨some 34,.bin .eql (.t 30) (.t 33),none⟩] [0,3,4,34])
 (.cond (.t 34) (.seq (.reg [⟨some 2,.mv (.c (.d (.int .i64 1))),none⟩] [2])
 .ret)
 .skip)))
 (.reg [⟨some 27,.mv (.t 4),none⟩,
 ⟨some 28,.bin .add (.t 27) (.c (.d (.int .i64 1))),none⟩,
 ⟨some 4,.mv (.t 28),none⟩] [0,3,4])))
def c_r3_sign : C := (.seq (.reg [⟨some 2,.mv (.c (.d (.int .i64 0))),none⟩] [0])
 (.seq (.seq (.reg [⟨some 5,.mv (.t 0),none⟩,
 ⟨some 6,.slen (.t 5),none⟩,
 ⟨some 7,.bin .geq (.t 6) (.c (.d (.int .i64 2))),none⟩,
 ⟨some 8,.mv (.t 7),none⟩,
 ⟨some 9,.mv (.t 0),some (8,true)⟩,
 ⟨some 10,.ssl (.t 9) none (some (.c (.d (.int .i64 2)))),some (8,true)⟩,
 ⟨some 11,.bin .eql (.t 10) (.c (.d (.str [45,62]))),some (8,true)⟩,
 ⟨some 12,.mv (.t 11),some (8,true)⟩,
 ⟨some 13,.mv (.t 0),some (12,false)⟩,
 ⟨some 14,.ssl (.t 13) none (some (.c (.d (.int .i64 2)))),some (12,false)⟩,
 ⟨some 15,.bin .eql (.t 14) (.c (.d (.str [60,61]))),some (12,false)⟩,
 ⟨some 16,.pick (.t 12) (.c (.d (.bool true))) (.t 15),some (8,true)⟩,
 ⟨some 17,.mv (.t 16),some (8,true)⟩,
 ⟨some 18,.mv (.t 0),some (17,false)⟩,
 ⟨some 19,.ssl (.t 18) none (some (.c (.d (.int .i64 2)))),some (17,false)⟩,
 ⟨some 20,.bin .eql (.t 19) (.c (.d (.str [61,61]))),some (17,false)⟩,
 ⟨some 21,.pick (.t 17) (.c (.d (.bool true))) (.t 20),some (8,true)⟩,
 ⟨some 22,.pick (.t 8) (.t 21) (.c (.d (.bool false))),none⟩] [0,22])
 (.cond (.t 22) (.seq (.reg [⟨some 2,.mv (.c (.d (.int .i64 2))),none⟩] [2])
 .ret)
 .skip))
 (.seq (.reg [⟨some 3,.mv (.c (.d (.str [40,41,44,61,124,43,45,42,47,37,60,59,95]))),none⟩] [0,3])
 (.seq (.seq (.reg [⟨some 4,.mv (.c (.d (.int .i64 0))),none⟩] [0,3,4])
 (.block 0 (.loop c_r3_sign_L0)))
 (.seq (.reg [⟨some 2,.mv (.c (.d (.int .i64 0))),none⟩] [2])
 .ret)))))
noncomputable def x_r3_sign : Cx := ⟨Try.prog,49,Try.f49,35,[],[],[.t 2]⟩
theorem g_r3_sign : Good x_r3_sign := ⟨Try.func49,by kernel_rfl⟩
theorem rs_r3_sign : x_r3_sign.rs = [.t 2] := rfl
theorem i_r3_sign (hl : args.length ≤ 35) (h : Run x_r3_sign K [.code c_r3_sign] (argF args) E σ) : ACalls Try.prog 49 args σ K :=
  acalls_of (cx := x_r3_sign) (code := Try.f49.body.getD .skip) g_r3_sign (by kernel_rfl) Try.ntmps49 hl (compC_rc x_r3_sign _ (ctOf c_r3_sign) _ [] (by kernel_rfl)) h
def c_slices_ContainsFunc_api_ConExpr : C := (.seq (.reg [⟨some 4,.mv (.c (.d (.bool false))),none⟩] [0,1])
 (.seq (.reg [⟨some 5,.mv (.t 0),none⟩,
 ⟨some 6,.mv (.t 1),none⟩,
 ⟨some 7,.call 88 [(.t 5),(.t 6)],none⟩,
 ⟨some 8,.bin .geq (.t 7) (.c (.d (.int .i64 0))),none⟩,
 ⟨some 4,.mv (.t 8),none⟩] [4])
 .ret))
noncomputable def x_slices_ContainsFunc_api_ConExpr : Cx := ⟨Try.prog,72,Try.f72,9,[],[],[.t 4]⟩
theorem g_slices_ContainsFunc_api_ConExpr : Good x_slices_ContainsFunc_api_ConExpr := ⟨Try.func72,by kernel_rfl⟩
theorem rs_slices_ContainsFunc_api_ConExpr : x_slices_ContainsFunc_api_ConExpr.rs = [.t 4] := rfl
theorem i_slices_ContainsFunc_api_ConExpr (hl : args.length ≤ 9) (h : Run x_slices_ContainsFunc_api_ConExpr K [.code c_slices_ContainsFunc_api_ConExpr] (argF args) E σ) : ACalls Try.prog 72 args σ K :=
  acalls_of (cx := x_slices_ContainsFunc_api_ConExpr) (code := Try.f72.body.getD .skip) g_slices_ContainsFunc_api_ConExpr (by kernel_rfl) Try.ntmps72 hl (compC_rc x_slices_ContainsFunc_api_ConExpr _ (ctOf c_slices_ContainsFunc_api_ConExpr) _ [] (by kernel_rfl)) h
def c_syntax_all_1_api_ConExpr : C := (.seq (.reg [⟨some 2,.box (.t 0) false,none⟩,
 ⟨some 3,.mv (.c (.d (.bool false))),none⟩] [1,2])
 (.seq (.reg [⟨some 4,.ld (.t 1) none,none⟩,
 ⟨some 5,.ldl (.t 2) (some 2),none⟩,
 ⟨some 6,.callv (.t 4) [(.t 5)],none⟩,
 ⟨some 7,.un .not (.t 6),none⟩,
 ⟨some 3,.mv (.t 7),none⟩] [3])
 .ret))
noncomputable def x_syntax_all_1_api_ConExpr : Cx := ⟨Try.prog,73,Try.f73,8,[300005],[],[.t 3]⟩
theorem g_syntax_all_1_api_ConExpr : Good x_syntax_all_1_api_ConExpr := ⟨Try.func73,by kernel_rfl⟩
theorem rs_syntax_all_1_api_ConExpr : x_syntax_all_1_api_ConExpr.rs = [.t 3] := rfl
theorem i_syntax_all_1_api_ConExpr (hl : args.length ≤ 8) (h : Run x_syntax_all_1_api_ConExpr K [.code c_syntax_all_1_api_ConExpr] (argF args) E σ) : ACalls Try.prog 73 args σ K :=
  acalls_of (cx := x_syntax_all_1_api_ConExpr) (code := Try.f73.body.getD .skip) g_syntax_all_1_api_ConExpr (by kernel_rfl) Try.ntmps73 hl (compC_rc x_syntax_all_1_api_ConExpr _ (ctOf c_syntax_all_1_api_ConExpr) _ [] (by kernel_rfl)) h
def c_slices_ContainsFunc_api_TypeExpr : C := (.seq (.reg [⟨some 4,.mv (.c (.d (.bool false))),none⟩] [0,1])
 (.seq (.reg [⟨some 5,.mv (.t 0),none⟩,
 ⟨some 6,.mv (.t 1),none⟩,
 ⟨some 7,.call 89 [(.t 5),(.t 6)],none⟩,
 ⟨some 8,.bin .geq (.t 7) (.c (.d (.int .i64 0))),none⟩,
 ⟨some 4,.mv (.t 8),none⟩] [4])
 .ret))
noncomputable def x_slices_ContainsFunc_api_TypeExpr : Cx := ⟨Try.prog,74,Try.f74,9,[],[],[.t 4]⟩
theorem g_slices_ContainsFunc_api_TypeExpr : Good x_slices_ContainsFunc_api_TypeExpr := ⟨Try.func74,by kernel_rfl⟩
theorem rs_slices_ContainsFunc_api_TypeExpr : x_slices_ContainsFunc_api_TypeExpr.rs = [.t 4] := rfl
theorem i_slices_ContainsFunc_api_TypeExpr (hl : args.length ≤ 9) (h : Run x_slices_ContainsFunc_api_TypeExpr K [.code c_slices_ContainsFunc_api_TypeExpr] (argF args) E σ) : ACalls Try.prog 74 args σ K :=
  acalls_of (cx := x_slices_ContainsFunc_api_TypeExpr) (code := Try.f74.body.getD .skip) g_slices_ContainsFunc_api_TypeExpr (by kernel_rfl) Try.ntmps74 hl (compC_rc x_slices_ContainsFunc_api_TypeExpr _ (ctOf c_slices_ContainsFunc_api_TypeExpr) _ [] (by kernel_rfl)) h
def c_syntax_all_1_api_TypeExpr : C := (.seq (.reg [⟨some 2,.box (.t 0) false,none⟩,
 ⟨some 3,.mv (.c (.d (.bool false))),none⟩] [1,2])
 (.seq (.reg [⟨some 4,.ld (.t 1) none,none⟩,
 ⟨some 5,.ldl (.t 2) (some 3),none⟩,
 ⟨some 6,.callv (.t 4) [(.t 5)],none⟩,
 ⟨some 7,.un .not (.t 6),none⟩,
 ⟨some 3,.mv (.t 7),none⟩] [3])
 .ret))
noncomputable def x_syntax_all_1_api_TypeExpr : Cx := ⟨Try.prog,75,Try.f75,8,[300005],[],[.t 3]⟩
theorem g_syntax_all_1_api_TypeExpr : Good x_syntax_all_1_api_TypeExpr := ⟨Try.func75,by kernel_rfl⟩
theorem rs_syntax_all_1_api_TypeExpr : x_syntax_all_1_api_TypeExpr.rs = [.t 3] := rfl
theorem i_syntax_all_1_api_TypeExpr (hl : args.length ≤ 8) (h : Run x_syntax_all_1_api_TypeExpr K [.code c_syntax_all_1_api_TypeExpr] (argF args) E σ) : ACalls Try.prog 75 args σ K :=
  acalls_of (cx := x_syntax_all_1_api_TypeExpr) (code := Try.f75.body.getD .skip) g_syntax_all_1_api_TypeExpr (by kernel_rfl) Try.ntmps75 hl (compC_rc x_syntax_all_1_api_TypeExpr _ (ctOf c_syntax_all_1_api_TypeExpr) _ [] (by kernel_rfl)) h
def c_syntax_validType_1 : C := (.seq (.reg [⟨some 2,.box (.t 0) false,none⟩,
 ⟨some 3,.mv (.c (.d (.bool false))),none⟩] [1,2])
 (.seq (.reg [⟨some 4,.ldl (.t 2) (some 3),none⟩,
 ⟨some 5,.ld (.t 1) none,none⟩,
 ⟨some 6,.bin .add (.t 5) (.c (.d (.int .i64 1))),none⟩,
 ⟨some 7,.call 63 [(.t 4),(.t 6)],none⟩,
 ⟨some 3,.mv (.t 7),none⟩] [3])
 .ret))
noncomputable def x_syntax_validType_1 : Cx := ⟨Try.prog,76,Try.f76,8,[300004],[],[.t 3]⟩
theorem g_syntax_validType_1 : Good x_syntax_validType_1 := ⟨Try.func76,by kernel_rfl⟩
theorem rs_syntax_validType_1 : x_syntax_validType_1.rs = [.t 3] := rfl
theorem i_syntax_validType_1 (hl : args.length ≤ 8) (h : Run x_syntax_validType_1 K [.code c_syntax_validType_1] (argF args) E σ) : ACalls Try.prog 76 args σ K :=
  acalls_of (cx := x_syntax_validType_1) (code := Try.f76.body.getD .skip) g_syntax_validType_1 (by kernel_rfl) Try.ntmps76 hl (compC_rc x_syntax_validType_1 _ (ctOf c_syntax_validType_1) _ [] (by kernel_rfl)) h
def c_token_Split_L0 : C := (.seq (.seq (.reg [⟨some 26,.mv (.t 6),none⟩,
 ⟨some 27,.mv (.t 0),none⟩,
 ⟨some 28,.slen (.t 27),none⟩,
 ⟨some 29,.bin .lss (.t 26) (.t 28),none⟩] [0,5,6,29])
 (.cond (.t 29) .skip
 (.exit 2)))
 (.seq (.block 3 (.seq (.reg [⟨some 32,.mv (.t 0),none⟩,
 ⟨some 33,.mv (.t 6),none⟩,
 ⟨some 34,.sidx (.t 32) (.t 33),none⟩,
 ⟨some 35,.bin .eql (.t 34) (.c (.d (.int .u8 10))),none⟩] [0,5,6,35])
 (.cond (.t 35) (.exit 1)
 .skip)))
 (.reg [⟨some 30,.mv (.t 6),none⟩,
 ⟨some 31,.bin .add (.t 30) (.c (.d (.int .i64 1))),none⟩,
 ⟨some 6,.mv (.t 31),none⟩] [0,5,6])))
def c_token_Split_L1 : C := (.seq (.seq (.reg [⟨some 12,.mv (.t 6),none⟩,
 ⟨some 13,.mv (.t 0),none⟩,
 ⟨some 14,.slen (.t 13),none⟩,
 ⟨some 15,.bin .lss (.t 12) (.t 14),none⟩] [0,5,6,15])
 (.cond (.t 15) .skip
 (.exit 0)))
 (.block 1 (.seq (.seq (.reg [⟨some 16,.mv (.t 0),none⟩,
 ⟨some 17,.mv (.t 6),none⟩,
 ⟨some 18,.sidx (.t 16) (.t 17),none⟩,
 ⟨some 19,.call 90 [(.t 18)],none⟩] [0,5,6,19])
 (.cond (.t 19) (.seq (.reg [⟨some 20,.mv (.t 6),none⟩,
 ⟨some 21,.bin .add (.t 20) (.c (.d (.int .i64 1))),none⟩,
 ⟨some 6,.mv (.t 21),none⟩] [0,5,6])
 (.exit 1))
 .skip))
 (.seq (.seq (.reg [⟨some 22,.mv (.t 0),none⟩,
 ⟨some 23,.mv (.t 6),none⟩,
 ⟨some 24,.sidx (.t 22) (.t 23),none⟩,
 ⟨some 25,.bin .eql (.t 24) (.c (.d (.int .u8 35))),none⟩] [0,5,6,25])
 (.cond (.t 25) (.seq (.block 2 (.loop c_token_Split_L0))
 (.exit 0))
 .skip))
 (.seq (.reg [⟨some 37,.mv (.t 0),none⟩,
 ⟨some 38,.mv (.t 6),none⟩,
 ⟨some 39,.call 91 [(.t 37),(.t 38)],none⟩,
 ⟨some 36,.mv (.t 39),none⟩,
 ⟨some 40,.ext (.t 36) 0,none⟩,
 ⟨some 41,.ext (.t 36) 1,none⟩,
 ⟨some 7,.al [(.d (.int .i64 0)),(.d (.str [])),(.d (.int .i64 0))] false,none⟩,
 ⟨none,.st (.t 7) (.t 40) 3,none⟩,
 ⟨some 8,.mv (.t 41),none⟩] [0,5,6,7,8])
 (.seq (.seq (.reg [⟨some 42,.mv (.t 8),none⟩,
 ⟨some 43,.bin .neq (.t 42) (.c (.d (.int .i64 0))),none⟩] [0,5,6,7,8,43])
 (.cond (.t 43) (.seq (.reg [⟨some 44,.mv (.t 6),none⟩,
 ⟨some 45,.mv (.t 8),none⟩,
 ⟨some 2,.mv (.c .nils),none⟩,
 ⟨some 3,.mv (.t 44),none⟩,
 ⟨some 4,.mv (.t 45),none⟩] [2,3,4])
 .ret)
 .skip))
 (.seq (.reg [⟨some 46,.mv (.t 5),none⟩,
 ⟨some 47,.ldl (.t 7) (some 3),none⟩,
 ⟨some 48,.bsl 3 1 [(.d (.int .i64 0)),(.d (.str [])),(.d (.int .i64 0))] [(0,3,(.t 47))],none⟩,
 ⟨some 49,.app 139 3 32 (.t 46) (.t 48),none⟩,
 ⟨some 5,.mv (.t 49),none⟩] [0,5,6,7])
 (.reg [⟨some 50,.mv (.t 6),none⟩,
 ⟨some 51,.fld (.t 7) 1,none⟩,
 ⟨some 52,.ldl (.t 51) none,none⟩,
 ⟨some 53,.slen (.t 52),none⟩,
 ⟨some 54,.bin .add (.t 50) (.t 53),none⟩,
 ⟨some 6,.mv (.t 54),none⟩] [0,5,6]))))))))
def c_token_Split : C := (.seq (.reg [⟨some 2,.mv (.c .nils),none⟩,
 ⟨some 3,.mv (.c (.d (.int .i64 0))),none⟩,
 ⟨some 4,.mv (.c (.d (.int .i64 0))),none⟩] [0])
 (.scope (.seq (.seq (.reg [⟨some 9,.mv (.t 0),none⟩,
 ⟨some 10,.slen (.t 9),none⟩,
 ⟨some 11,.bin .gtr (.t 10) (.c (.d (.int .i64 16384))),none⟩] [0,11])
 (.cond (.t 11) (.seq (.reg [⟨some 2,.mv (.c .nils),none⟩,
 ⟨some 3,.mv (.c (.d (.int .i64 0))),none⟩,
 ⟨some 4,.mv (.c (.d (.int .i64 9))),none⟩] [2,3,4])
 .ret)
 .skip))
 (.seq (.reg [⟨some 5,.mv (.c .nils),none⟩] [0,5])
 (.seq (.reg [⟨some 6,.mv (.c (.d (.int .i64 0))),none⟩] [0,5,6])
 (.seq .skip
 (.seq (.block 0 (.loop c_token_Split_L1))
 (.seq (.reg [⟨some 55,.mv (.t 5),none⟩,
 ⟨some 56,.mv (.t 0),none⟩,
 ⟨some 57,.slen (.t 56),none⟩,
 ⟨some 58,.bld [(.d (.int .i64 0)),(.d (.str [])),(.d (.int .i64 0))] [(0,1,(.c (.d (.int .i64 6)))),(2,1,(.t 57))],none⟩,
 ⟨some 59,.bsl 3 1 [(.d (.int .i64 0)),(.d (.str [])),(.d (.int .i64 0))] [(0,3,(.t 58))],none⟩,
 ⟨some 60,.app 139 3 32 (.t 55) (.t 59),none⟩,
 ⟨some 2,.mv (.t 60),none⟩,
 ⟨some 3,.mv (.c (.d (.int .i64 0))),none⟩,
 ⟨some 4,.mv (.c (.d (.int .i64 0))),none⟩] [2,3,4])
 .ret))))))))
noncomputable def x_token_Split : Cx := ⟨Try.prog,77,Try.f77,61,[300047,300052],[],[.t 2,.t 3,.t 4]⟩
theorem g_token_Split : Good x_token_Split := ⟨Try.func77,by kernel_rfl⟩
theorem rs_token_Split : x_token_Split.rs = [.t 2,.t 3,.t 4] := rfl
theorem i_token_Split (hl : args.length ≤ 61) (h : Run x_token_Split K [.code c_token_Split] (argF args) E σ) : ACalls Try.prog 77 args σ K :=
  acalls_of (cx := x_token_Split) (code := Try.f77.body.getD .skip) g_token_Split (by kernel_rfl) Try.ntmps77 hl (compC_rc x_token_Split _ (ctOf c_token_Split) _ [] (by kernel_rfl)) h
def c_slices_IndexFunc_string_L0 : C := (.seq (.reg [⟨some 9,.bin .lss (.t 8) (.t 7),none⟩] [0,1,7,8,9])
 (.seq (.cond (.t 9) .skip
 (.exit 0))
 (.seq (.block 1 (.seq (.reg [⟨some 10,.mv (.t 8),none⟩,
 ⟨some 5,.mv (.t 10),none⟩] [0,1,5,7,8])
 (.seq (.reg [⟨some 11,.mv (.t 1),none⟩,
 ⟨some 12,.mv (.t 0),none⟩,
 ⟨some 13,.mv (.t 5),none⟩,
 ⟨some 14,.ix (.t 12) (.t 13) 1,none⟩,
 ⟨some 15,.ld (.t 14) none,none⟩,
 ⟨some 16,.callv (.t 11) [(.t 15)],none⟩] [0,1,5,7,8,16])
 (.cond (.t 16) (.seq (.reg [⟨some 17,.mv (.t 5),none⟩,
 ⟨some 4,.mv (.t 17),none⟩] [4])
 .ret)
 .skip))))
 (.reg [⟨some 18,.bin .add (.t 8) (.c (.d (.int .i64 1))),none⟩,
 ⟨some 8,.mv (.t 18),none⟩] [0,1,7,8]))))
def c_slices_IndexFunc_string : C := (.seq (.reg [⟨some 4,.mv (.c (.d (.int .i64 0))),none⟩] [0,1])
 (.seq (.seq (.reg [⟨some 6,.mv (.t 0),none⟩,
 ⟨some 7,.len (.t 6),none⟩,
 ⟨some 8,.mv (.c (.d (.int .i64 0))),none⟩] [0,1,7,8])
 (.block 0 (.loop c_slices_IndexFunc_string_L0)))
 (.seq (.reg [⟨some 4,.mv (.c (.d (.int .i64 (-1)))),none⟩] [4])
 .ret)))
noncomputable def x_slices_IndexFunc_string : Cx := ⟨Try.prog,78,Try.f78,19,[],[],[.t 4]⟩
theorem g_slices_IndexFunc_string : Good x_slices_IndexFunc_string := ⟨Try.func78,by kernel_rfl⟩
theorem rs_slices_IndexFunc_string : x_slices_IndexFunc_string.rs = [.t 4] := rfl
theorem i_slices_IndexFunc_string (hl : args.length ≤ 19) (h : Run x_slices_IndexFunc_string K [.code c_slices_IndexFunc_string] (argF args) E σ) : ACalls Try.prog 78 args σ K :=
  acalls_of (cx := x_slices_IndexFunc_string) (code := Try.f78.body.getD .skip) g_slices_IndexFunc_string (by kernel_rfl) Try.ntmps78 hl (compC_rc x_slices_IndexFunc_string _ (ctOf c_slices_IndexFunc_string) _ [] (by kernel_rfl)) h
def c_syntax_validLeaf : C := (.seq (.reg [⟨some 1,.box (.t 0) false,none⟩,
 ⟨some 2,.mv (.c (.d (.bool false))),none⟩] [1])
 (.seq (.reg [⟨some 6,.ldl (.t 1) (some 6),none⟩,
 ⟨some 3,.al [(.d (.int .i64 0)),(.d (.str [])),(.d (.int .i64 0)),.nils,.nils,.nils] false,none⟩,
 ⟨none,.st (.t 3) (.t 6) 6,none⟩] [1,3])
 (.seq (.seq (.reg [⟨some 7,.fld (.t 1) 0,none⟩,
 ⟨some 8,.ldl (.t 7) none,none⟩] [1,3,8])
 (.block 0 (.seq (.reg [⟨some 10,.bin .eql (.t 8) (.c (.d (.int .i64 1))),none⟩,
 ⟨some 9,.mv (.t 10),none⟩] [1,3,8,9])
 (.cond (.t 9) (.seq (.reg [⟨some 11,.ldl (.t 1) (some 6),none⟩,
 ⟨some 12,.call 80 [(.t 11)],none⟩,
 ⟨some 2,.mv (.t 12),none⟩] [2])
 .ret)
 (.seq (.reg [⟨some 14,.bin .eql (.t 8) (.c (.d (.int .i64 4))),none⟩,
 ⟨some 13,.mv (.t 14),none⟩] [1,3,13])
 (.cond (.t 13) (.seq (.reg [⟨some 15,.fld (.t 3) 1,none⟩,
 ⟨none,.st (.t 15) (.c (.d (.str []))) 1,none⟩] [1,3])
 (.seq (.reg [⟨some 16,.fld (.t 1) 1,none⟩,
 ⟨some 17,.ldl (.t 16) none,none⟩,
 ⟨some 18,.call 51 [(.t 17)],none⟩,
 ⟨some 19,.mv (.t 18),none⟩,
 ⟨some 20,.ldl (.t 3) (some 6),some (19,true)⟩,
 ⟨some 21,.call 80 [(.t 20)],some (19,true)⟩,
 ⟨some 22,.pick (.t 19) (.t 21) (.c (.d (.bool false))),none⟩,
 ⟨some 2,.mv (.t 22),none⟩] [2])
 .ret))
 .skip))))))
 (.seq (.reg [⟨some 23,.fld (.t 3) 2,none⟩,
 ⟨none,.st (.t 23) (.c (.d (.int .i64 0))) 1,none⟩] [1,3])
 (.seq (.reg [⟨some 4,.mv (.c (.d (.int .i64 (-1000000)))),none⟩,
 ⟨some 5,.mv (.c (.d (.int .i64 1000000))),none⟩] [1,3,4,5])
 (.seq (.seq (.reg [⟨some 24,.fld (.t 1) 0,none⟩,
 ⟨some 25,.ldl (.t 24) none,none⟩] [1,3,4,5,25])
 (.block 1 (.seq (.reg [⟨some 27,.bin .eql (.t 25) (.c (.d (.int .i64 2))),none⟩,
 ⟨some 26,.mv (.t 27),none⟩] [1,3,4,5,25,26])
 (.cond (.t 26) (.reg [⟨some 4,.mv (.c (.d (.int .i64 0))),none⟩,
 ⟨some 5,.mv (.c (.d (.int .i64 1))),none⟩] [1,3,4,5])
 (.seq (.reg [⟨some 29,.bin .eql (.t 25) (.c (.d (.int .i64 15))),none⟩,
 ⟨some 28,.mv (.t 29),none⟩] [1,3,4,5,28])
 (.cond (.t 28) (.reg [⟨some 4,.mv (.c (.d (.int .i64 (-1000)))),none⟩,
 ⟨some 5,.mv (.c (.d (.int .i64 1000))),none⟩] [1,3,4,5])
 .skip))))))
 (.seq (.reg [⟨some 30,.fld (.t 1) 2,none⟩,
 ⟨some 31,.ldl (.t 30) none,none⟩,
 ⟨some 32,.mv (.t 4),none⟩,
 ⟨some 33,.mv (.t 5),none⟩,
 ⟨some 34,.call 84 [(.t 31),(.t 32),(.t 33)],none⟩,
 ⟨some 35,.mv (.t 34),none⟩,
 ⟨some 36,.ldl (.t 3) (some 6),some (35,true)⟩,
 ⟨some 37,.call 80 [(.t 36)],some (35,true)⟩,
 ⟨some 38,.pick (.t 35) (.t 37) (.c (.d (.bool false))),none⟩,
 ⟨some 2,.mv (.t 38),none⟩] [2])
 .ret)))))))
noncomputable def x_syntax_validLeaf : Cx := ⟨Try.prog,79,Try.f79,39,[300006,300008,300011,300017,300020,300025,300031,300036],[],[.t 2]⟩
theorem g_syntax_validLeaf : Good x_syntax_validLeaf := ⟨Try.func79,by kernel_rfl⟩
theorem rs_syntax_validLeaf : x_syntax_validLeaf.rs = [.t 2] := rfl
theorem i_syntax_validLeaf (hl : args.length ≤ 39) (h : Run x_syntax_validLeaf K [.code c_syntax_validLeaf] (argF args) E σ) : ACalls Try.prog 79 args σ K :=
  acalls_of (cx := x_syntax_validLeaf) (code := Try.f79.body.getD .skip) g_syntax_validLeaf (by kernel_rfl) Try.ntmps79 hl (compC_rc x_syntax_validLeaf _ (ctOf c_syntax_validLeaf) _ [] (by kernel_rfl)) h
def c_syntax_plain : C := (.seq (.reg [⟨some 1,.box (.t 0) false,none⟩,
 ⟨some 2,.mv (.c (.d (.bool false))),none⟩] [1])
 (.seq (.reg [⟨some 3,.fld (.t 1) 1,none⟩,
 ⟨some 4,.ldl (.t 3) none,none⟩,
 ⟨some 5,.bin .eql (.t 4) (.c (.d (.str []))),none⟩,
 ⟨some 6,.mv (.t 5),none⟩,
 ⟨some 7,.fld (.t 1) 2,some (6,true)⟩,
 ⟨some 8,.ldl (.t 7) none,some (6,true)⟩,
 ⟨some 9,.bin .eql (.t 8) (.c (.d (.int .i64 0))),some (6,true)⟩,
 ⟨some 10,.pick (.t 6) (.t 9) (.c (.d (.bool false))),none⟩,
 ⟨some 11,.mv (.t 10),none⟩,
 ⟨some 12,.fld (.t 1) 3,some (11,true)⟩,
 ⟨some 13,.ldl (.t 12) none,some (11,true)⟩,
 ⟨some 14,.len (.t 13),some (11,true)⟩,
 ⟨some 15,.bin .eql (.t 14) (.c (.d (.int .i64 0))),some (11,true)⟩,
 ⟨some 16,.pick (.t 11) (.t 15) (.c (.d (.bool false))),none⟩,
 ⟨some 17,.mv (.t 16),none⟩,
 ⟨some 18,.fld (.t 1) 5,some (17,true)⟩,
 ⟨some 19,.ldl (.t 18) none,some (17,true)⟩,
 ⟨some 20,.len (.t 19),some (17,true)⟩,
 ⟨some 21,.bin .eql (.t 20) (.c (.d (.int .i64 0))),some (17,true)⟩,
 ⟨some 22,.pick (.t 17) (.t 21) (.c (.d (.bool false))),none⟩,
 ⟨some 2,.mv (.t 22),none⟩] [2])
 .ret))
noncomputable def x_syntax_plain : Cx := ⟨Try.prog,80,Try.f80,23,[300004,300008,300013,300019],[],[.t 2]⟩
theorem g_syntax_plain : Good x_syntax_plain := ⟨Try.func80,by kernel_rfl⟩
theorem rs_syntax_plain : x_syntax_plain.rs = [.t 2] := rfl
theorem i_syntax_plain (hl : args.length ≤ 23) (h : Run x_syntax_plain K [.code c_syntax_plain] (argF args) E σ) : ACalls Try.prog 80 args σ K :=
  acalls_of (cx := x_syntax_plain) (code := Try.f80.body.getD .skip) g_syntax_plain (by kernel_rfl) Try.ntmps80 hl (compC_rc x_syntax_plain _ (ctOf c_syntax_plain) _ [] (by kernel_rfl)) h
def c_syntax_isBind : C := (.seq (.reg [⟨some 2,.mv (.c (.d (.bool false))),none⟩] [0])
 (.seq (.reg [⟨some 3,.mv (.t 0),none⟩,
 ⟨some 4,.bin .eql (.t 3) (.c (.d (.str []))),none⟩,
 ⟨some 5,.mv (.t 4),none⟩,
 ⟨some 6,.mv (.t 0),some (5,false)⟩,
 ⟨some 7,.call 51 [(.t 6)],some (5,false)⟩,
 ⟨some 8,.pick (.t 5) (.c (.d (.bool true))) (.t 7),none⟩,
 ⟨some 2,.mv (.t 8),none⟩] [2])
 .ret))
noncomputable def x_syntax_isBind : Cx := ⟨Try.prog,81,Try.f81,9,[],[],[.t 2]⟩
theorem g_syntax_isBind : Good x_syntax_isBind := ⟨Try.func81,by kernel_rfl⟩
theorem rs_syntax_isBind : x_syntax_isBind.rs = [.t 2] := rfl
theorem i_syntax_isBind (hl : args.length ≤ 9) (h : Run x_syntax_isBind K [.code c_syntax_isBind] (argF args) E σ) : ACalls Try.prog 81 args σ K :=
  acalls_of (cx := x_syntax_isBind) (code := Try.f81.body.getD .skip) g_syntax_isBind (by kernel_rfl) Try.ntmps81 hl (compC_rc x_syntax_isBind _ (ctOf c_syntax_isBind) _ [] (by kernel_rfl)) h
def c_syntax_all_api_Alt : C := (.seq (.reg [⟨some 3,.box (.t 1) true,none⟩,
 ⟨some 4,.mv (.c (.d (.bool false))),none⟩] [0,3])
 (.seq (.reg [⟨some 5,.mv (.t 0),none⟩,
 ⟨some 6,.mkf 93 [] [(.t 3)],none⟩,
 ⟨some 7,.call 92 [(.t 5),(.t 6)],none⟩,
 ⟨some 8,.un .not (.t 7),none⟩,
 ⟨some 4,.mv (.t 8),none⟩] [4])
 .ret))
noncomputable def x_syntax_all_api_Alt : Cx := ⟨Try.prog,82,Try.f82,9,[3],[],[.t 4]⟩
theorem g_syntax_all_api_Alt : Good x_syntax_all_api_Alt := ⟨Try.func82,by kernel_rfl⟩
theorem rs_syntax_all_api_Alt : x_syntax_all_api_Alt.rs = [.t 4] := rfl
theorem i_syntax_all_api_Alt (hl : args.length ≤ 9) (h : Run x_syntax_all_api_Alt K [.code c_syntax_all_api_Alt] (argF args) E σ) : ACalls Try.prog 82 args σ K :=
  acalls_of (cx := x_syntax_all_api_Alt) (code := Try.f82.body.getD .skip) g_syntax_all_api_Alt (by kernel_rfl) Try.ntmps82 hl (compC_rc x_syntax_all_api_Alt _ (ctOf c_syntax_all_api_Alt) _ [] (by kernel_rfl)) h
def c_syntax_validAlt : C := (.seq (.reg [⟨some 1,.box (.t 0) false,none⟩,
 ⟨some 2,.mv (.c (.d (.bool false))),none⟩] [1])
 (.seq (.reg [⟨some 3,.fld (.t 1) 0,none⟩,
 ⟨some 4,.ldl (.t 3) none,none⟩,
 ⟨some 5,.call 58 [(.t 4)],none⟩,
 ⟨some 6,.mv (.t 5),none⟩,
 ⟨some 7,.fld (.t 1) 1,some (6,true)⟩,
 ⟨some 8,.ldl (.t 7) none,some (6,true)⟩,
 ⟨some 9,.len (.t 8),some (6,true)⟩,
 ⟨some 10,.bin .leq (.t 9) (.c (.d (.int .i64 6))),some (6,true)⟩,
 ⟨some 11,.pick (.t 6) (.t 10) (.c (.d (.bool false))),none⟩,
 ⟨some 12,.mv (.t 11),none⟩,
 ⟨some 13,.fld (.t 1) 1,some (12,true)⟩,
 ⟨some 14,.ldl (.t 13) none,some (12,true)⟩,
 ⟨some 15,.call 52 [(.t 14),(.c (.fn 81 [] []))],some (12,true)⟩,
 ⟨some 16,.pick (.t 12) (.t 15) (.c (.d (.bool false))),none⟩,
 ⟨some 2,.mv (.t 16),none⟩] [2])
 .ret))
noncomputable def x_syntax_validAlt : Cx := ⟨Try.prog,83,Try.f83,17,[300004,300008,300014],[],[.t 2]⟩
theorem g_syntax_validAlt : Good x_syntax_validAlt := ⟨Try.func83,by kernel_rfl⟩
theorem rs_syntax_validAlt : x_syntax_validAlt.rs = [.t 2] := rfl
theorem i_syntax_validAlt (hl : args.length ≤ 17) (h : Run x_syntax_validAlt K [.code c_syntax_validAlt] (argF args) E σ) : ACalls Try.prog 83 args σ K :=
  acalls_of (cx := x_syntax_validAlt) (code := Try.f83.body.getD .skip) g_syntax_validAlt (by kernel_rfl) Try.ntmps83 hl (compC_rc x_syntax_validAlt _ (ctOf c_syntax_validAlt) _ [] (by kernel_rfl)) h
def c_syntax_between : C := (.seq (.reg [⟨some 6,.mv (.c (.d (.bool false))),none⟩] [0,1,2])
 (.seq (.reg [⟨some 7,.mv (.t 1),none⟩,
 ⟨some 8,.mv (.t 0),none⟩,
 ⟨some 9,.bin .leq (.t 7) (.t 8),none⟩,
 ⟨some 10,.mv (.t 9),none⟩,
 ⟨some 11,.mv (.t 0),some (10,true)⟩,
 ⟨some 12,.mv (.t 2),some (10,true)⟩,
 ⟨some 13,.bin .leq (.t 11) (.t 12),some (10,true)⟩,
 ⟨some 14,.pick (.t 10) (.t 13) (.c (.d (.bool false))),none⟩,
 ⟨some 6,.mv (.t 14),none⟩] [6])
 .ret))
noncomputable def x_syntax_between : Cx := ⟨Try.prog,84,Try.f84,15,[],[],[.t 6]⟩
theorem g_syntax_between : Good x_syntax_between := ⟨Try.func84,by kernel_rfl⟩
theorem rs_syntax_between : x_syntax_between.rs = [.t 6] := rfl
theorem i_syntax_between (hl : args.length ≤ 15) (h : Run x_syntax_between K [.code c_syntax_between] (argF args) E σ) : ACalls Try.prog 84 args σ K :=
  acalls_of (cx := x_syntax_between) (code := Try.f84.body.getD .skip) g_syntax_between (by kernel_rfl) Try.ntmps84 hl (compC_rc x_syntax_between _ (ctOf c_syntax_between) _ [] (by kernel_rfl)) h
def c_syntax_primitive : C := (.seq (.reg [⟨some 2,.mv (.c (.d (.str []))),none⟩,
 ⟨some 3,.mv (.c (.d (.int .i64 0))),none⟩] [0])
 (.seq (.seq (.reg [⟨some 4,.mv (.t 0),none⟩] [4])
 (.block 0 (.seq (.reg [⟨some 6,.bin .eql (.t 4) (.c (.d (.int .i64 1))),none⟩,
 ⟨some 5,.mv (.t 6),none⟩] [4,5])
 (.cond (.t 5) (.seq (.reg [⟨some 2,.mv (.c (.d (.str [110,101,119]))),none⟩,
 ⟨some 3,.mv (.c (.d (.int .i64 2))),none⟩] [2,3])
 .ret)
 (.seq (.reg [⟨some 8,.bin .eql (.t 4) (.c (.d (.int .i64 2))),none⟩,
 ⟨some 7,.mv (.t 8),none⟩] [4,7])
 (.cond (.t 7) (.seq (.reg [⟨some 2,.mv (.c (.d (.str [103,101,116]))),none⟩,
 ⟨some 3,.mv (.c (.d (.int .i64 2))),none⟩] [2,3])
 .ret)
 (.seq (.reg [⟨some 10,.bin .eql (.t 4) (.c (.d (.int .i64 3))),none⟩,
 ⟨some 9,.mv (.t 10),none⟩] [4,9])
 (.cond (.t 9) (.seq (.reg [⟨some 2,.mv (.c (.d (.str [115,101,116]))),none⟩,
 ⟨some 3,.mv (.c (.d (.int .i64 3))),none⟩] [2,3])
 .ret)
 (.seq (.reg [⟨some 12,.bin .eql (.t 4) (.c (.d (.int .i64 4))),none⟩,
 ⟨some 11,.mv (.t 12),none⟩] [4,11])
 (.cond (.t 11) (.seq (.reg [⟨some 2,.mv (.c (.d (.str [108,101,110]))),none⟩,
 ⟨some 3,.mv (.c (.d (.int .i64 1))),none⟩] [2,3])
 .ret)
 (.seq (.reg [⟨some 14,.bin .eql (.t 4) (.c (.d (.int .i64 5))),none⟩,
 ⟨some 13,.mv (.t 14),none⟩] [4,13])
 (.cond (.t 13) (.seq (.reg [⟨some 2,.mv (.c (.d (.str [114,101,102]))),none⟩,
 ⟨some 3,.mv (.c (.d (.int .i64 1))),none⟩] [2,3])
 .ret)
 (.seq (.reg [⟨some 16,.bin .eql (.t 4) (.c (.d (.int .i64 6))),none⟩,
 ⟨some 15,.mv (.t 16),none⟩] [4,15])
 (.cond (.t 15) (.seq (.reg [⟨some 2,.mv (.c (.d (.str [114,101,97,100]))),none⟩,
 ⟨some 3,.mv (.c (.d (.int .i64 1))),none⟩] [2,3])
 .ret)
 (.seq (.reg [⟨some 18,.bin .eql (.t 4) (.c (.d (.int .i64 7))),none⟩,
 ⟨some 17,.mv (.t 18),none⟩] [17])
 (.cond (.t 17) (.seq (.reg [⟨some 2,.mv (.c (.d (.str [119,114,105,116,101]))),none⟩,
 ⟨some 3,.mv (.c (.d (.int .i64 2))),none⟩] [2,3])
 .ret)
 .skip))))))))))))))))
 (.seq (.reg [⟨some 2,.mv (.c (.d (.str []))),none⟩,
 ⟨some 3,.mv (.c (.d (.int .i64 0))),none⟩] [2,3])
 .ret)))
noncomputable def x_syntax_primitive : Cx := ⟨Try.prog,85,Try.f85,19,[],[],[.t 2,.t 3]⟩
theorem g_syntax_primitive : Good x_syntax_primitive := ⟨Try.func85,by kernel_rfl⟩
theorem rs_syntax_primitive : x_syntax_primitive.rs = [.t 2,.t 3] := rfl
theorem i_syntax_primitive (hl : args.length ≤ 19) (h : Run x_syntax_primitive K [.code c_syntax_primitive] (argF args) E σ) : ACalls Try.prog 85 args σ K :=
  acalls_of (cx := x_syntax_primitive) (code := Try.f85.body.getD .skip) g_syntax_primitive (by kernel_rfl) Try.ntmps85 hl (compC_rc x_syntax_primitive _ (ctOf c_syntax_primitive) _ [] (by kernel_rfl)) h
def c_slices_IndexFunc_api_ConExpr_L0 : C := (.seq (.reg [⟨some 9,.bin .lss (.t 8) (.t 7),none⟩] [0,1,7,8,9])
 (.seq (.cond (.t 9) .skip
 (.exit 0))
 (.seq (.block 1 (.seq (.reg [⟨some 10,.mv (.t 8),none⟩,
 ⟨some 5,.mv (.t 10),none⟩] [0,1,5,7,8])
 (.seq (.reg [⟨some 11,.mv (.t 1),none⟩,
 ⟨some 12,.mv (.t 0),none⟩,
 ⟨some 13,.mv (.t 5),none⟩,
 ⟨some 14,.ix (.t 12) (.t 13) 2,none⟩,
 ⟨some 15,.ld (.t 14) (some 2),none⟩,
 ⟨some 16,.callv (.t 11) [(.t 15)],none⟩] [0,1,5,7,8,16])
 (.cond (.t 16) (.seq (.reg [⟨some 17,.mv (.t 5),none⟩,
 ⟨some 4,.mv (.t 17),none⟩] [4])
 .ret)
 .skip))))
 (.reg [⟨some 18,.bin .add (.t 8) (.c (.d (.int .i64 1))),none⟩,
 ⟨some 8,.mv (.t 18),none⟩] [0,1,7,8]))))
def c_slices_IndexFunc_api_ConExpr : C := (.seq (.reg [⟨some 4,.mv (.c (.d (.int .i64 0))),none⟩] [0,1])
 (.seq (.seq (.reg [⟨some 6,.mv (.t 0),none⟩,
 ⟨some 7,.len (.t 6),none⟩,
 ⟨some 8,.mv (.c (.d (.int .i64 0))),none⟩] [0,1,7,8])
 (.block 0 (.loop c_slices_IndexFunc_api_ConExpr_L0)))
 (.seq (.reg [⟨some 4,.mv (.c (.d (.int .i64 (-1)))),none⟩] [4])
 .ret)))
noncomputable def x_slices_IndexFunc_api_ConExpr : Cx := ⟨Try.prog,88,Try.f88,19,[],[],[.t 4]⟩
theorem g_slices_IndexFunc_api_ConExpr : Good x_slices_IndexFunc_api_ConExpr := ⟨Try.func88,by kernel_rfl⟩
theorem rs_slices_IndexFunc_api_ConExpr : x_slices_IndexFunc_api_ConExpr.rs = [.t 4] := rfl
theorem i_slices_IndexFunc_api_ConExpr (hl : args.length ≤ 19) (h : Run x_slices_IndexFunc_api_ConExpr K [.code c_slices_IndexFunc_api_ConExpr] (argF args) E σ) : ACalls Try.prog 88 args σ K :=
  acalls_of (cx := x_slices_IndexFunc_api_ConExpr) (code := Try.f88.body.getD .skip) g_slices_IndexFunc_api_ConExpr (by kernel_rfl) Try.ntmps88 hl (compC_rc x_slices_IndexFunc_api_ConExpr _ (ctOf c_slices_IndexFunc_api_ConExpr) _ [] (by kernel_rfl)) h
def c_slices_IndexFunc_api_TypeExpr_L0 : C := (.seq (.reg [⟨some 9,.bin .lss (.t 8) (.t 7),none⟩] [0,1,7,8,9])
 (.seq (.cond (.t 9) .skip
 (.exit 0))
 (.seq (.block 1 (.seq (.reg [⟨some 10,.mv (.t 8),none⟩,
 ⟨some 5,.mv (.t 10),none⟩] [0,1,5,7,8])
 (.seq (.reg [⟨some 11,.mv (.t 1),none⟩,
 ⟨some 12,.mv (.t 0),none⟩,
 ⟨some 13,.mv (.t 5),none⟩,
 ⟨some 14,.ix (.t 12) (.t 13) 3,none⟩,
 ⟨some 15,.ld (.t 14) (some 3),none⟩,
 ⟨some 16,.callv (.t 11) [(.t 15)],none⟩] [0,1,5,7,8,16])
 (.cond (.t 16) (.seq (.reg [⟨some 17,.mv (.t 5),none⟩,
 ⟨some 4,.mv (.t 17),none⟩] [4])
 .ret)
 .skip))))
 (.reg [⟨some 18,.bin .add (.t 8) (.c (.d (.int .i64 1))),none⟩,
 ⟨some 8,.mv (.t 18),none⟩] [0,1,7,8]))))
def c_slices_IndexFunc_api_TypeExpr : C := (.seq (.reg [⟨some 4,.mv (.c (.d (.int .i64 0))),none⟩] [0,1])
 (.seq (.seq (.reg [⟨some 6,.mv (.t 0),none⟩,
 ⟨some 7,.len (.t 6),none⟩,
 ⟨some 8,.mv (.c (.d (.int .i64 0))),none⟩] [0,1,7,8])
 (.block 0 (.loop c_slices_IndexFunc_api_TypeExpr_L0)))
 (.seq (.reg [⟨some 4,.mv (.c (.d (.int .i64 (-1)))),none⟩] [4])
 .ret)))
noncomputable def x_slices_IndexFunc_api_TypeExpr : Cx := ⟨Try.prog,89,Try.f89,19,[],[],[.t 4]⟩
theorem g_slices_IndexFunc_api_TypeExpr : Good x_slices_IndexFunc_api_TypeExpr := ⟨Try.func89,by kernel_rfl⟩
theorem rs_slices_IndexFunc_api_TypeExpr : x_slices_IndexFunc_api_TypeExpr.rs = [.t 4] := rfl
theorem i_slices_IndexFunc_api_TypeExpr (hl : args.length ≤ 19) (h : Run x_slices_IndexFunc_api_TypeExpr K [.code c_slices_IndexFunc_api_TypeExpr] (argF args) E σ) : ACalls Try.prog 89 args σ K :=
  acalls_of (cx := x_slices_IndexFunc_api_TypeExpr) (code := Try.f89.body.getD .skip) g_slices_IndexFunc_api_TypeExpr (by kernel_rfl) Try.ntmps89 hl (compC_rc x_slices_IndexFunc_api_TypeExpr _ (ctOf c_slices_IndexFunc_api_TypeExpr) _ [] (by kernel_rfl)) h
def c_token_blank : C := (.seq (.reg [⟨some 2,.mv (.c (.d (.bool false))),none⟩] [0])
 (.seq (.reg [⟨some 3,.mv (.t 0),none⟩,
 ⟨some 4,.bin .eql (.t 3) (.c (.d (.int .u8 9))),none⟩,
 ⟨some 5,.mv (.t 4),none⟩,
 ⟨some 6,.mv (.t 0),some (5,false)⟩,
 ⟨some 7,.bin .eql (.t 6) (.c (.d (.int .u8 10))),some (5,false)⟩,
 ⟨some 8,.pick (.t 5) (.c (.d (.bool true))) (.t 7),none⟩,
 ⟨some 9,.mv (.t 8),none⟩,
 ⟨some 10,.mv (.t 0),some (9,false)⟩,
 ⟨some 11,.bin .eql (.t 10) (.c (.d (.int .u8 13))),some (9,false)⟩,
 ⟨some 12,.pick (.t 9) (.c (.d (.bool true))) (.t 11),none⟩,
 ⟨some 13,.mv (.t 12),none⟩,
 ⟨some 14,.mv (.t 0),some (13,false)⟩,
 ⟨some 15,.bin .eql (.t 14) (.c (.d (.int .u8 32))),some (13,false)⟩,
 ⟨some 16,.pick (.t 13) (.c (.d (.bool true))) (.t 15),none⟩,
 ⟨some 2,.mv (.t 16),none⟩] [2])
 .ret))
noncomputable def x_token_blank : Cx := ⟨Try.prog,90,Try.f90,17,[],[],[.t 2]⟩
theorem g_token_blank : Good x_token_blank := ⟨Try.func90,by kernel_rfl⟩
theorem rs_token_blank : x_token_blank.rs = [.t 2] := rfl
theorem i_token_blank (hl : args.length ≤ 17) (h : Run x_token_blank K [.code c_token_blank] (argF args) E σ) : ACalls Try.prog 90 args σ K :=
  acalls_of (cx := x_token_blank) (code := Try.f90.body.getD .skip) g_token_blank (by kernel_rfl) Try.ntmps90 hl (compC_rc x_token_blank _ (ctOf c_token_blank) _ [] (by kernel_rfl)) h
def c_token_scan : C := (.seq (.reg [⟨some 4,.al [(.d (.int .i64 0)),(.d (.str [])),(.d (.int .i64 0))] false,none⟩,
 ⟨some 5,.mv (.c (.d (.int .i64 0))),none⟩] [0,1,4])
 (.seq (.reg [⟨some 8,.mv (.t 1),none⟩,
 ⟨some 9,.bld [(.d (.int .i64 0)),(.d (.str [])),(.d (.int .i64 0))] [(2,1,(.t 8))],none⟩,
 ⟨some 6,.al [(.d (.int .i64 0)),(.d (.str [])),(.d (.int .i64 0))] false,none⟩,
 ⟨none,.st (.t 6) (.t 9) 3,none⟩] [0,1,4,6])
 (.seq (.seq (.reg [⟨some 10,.mv (.t 0),none⟩,
 ⟨some 11,.mv (.t 1),none⟩,
 ⟨some 12,.sidx (.t 10) (.t 11),none⟩,
 ⟨some 7,.mv (.t 12),none⟩] [0,1,4,6,7])
 (.block 0 (.seq (.reg [⟨some 24,.mv (.t 7),none⟩,
 ⟨some 25,.call 94 [(.t 24)],none⟩,
 ⟨some 26,.mv (.t 25),none⟩,
 ⟨some 27,.mv (.t 7),some (26,false)⟩,
 ⟨some 28,.call 95 [(.t 27)],some (26,false)⟩,
 ⟨some 29,.pick (.t 26) (.c (.d (.bool true))) (.t 28),none⟩,
 ⟨some 23,.mv (.t 29),none⟩] [0,1,4,6,7,23])
 (.cond (.t 23) (.seq (.reg [⟨some 30,.mv (.t 0),none⟩,
 ⟨some 31,.mv (.t 1),none⟩,
 ⟨some 32,.ssl (.t 30) (some (.t 31)) none,none⟩,
 ⟨some 33,.call 96 [(.t 32),(.c (.fn 97 [] []))],none⟩,
 ⟨some 34,.fld (.t 6) 1,none⟩,
 ⟨none,.st (.t 34) (.t 33) 1,none⟩] [4,6,7])
 (.block 1 (.seq (.reg [⟨some 37,.fld (.t 6) 1,none⟩,
 ⟨some 38,.ldl (.t 37) none,none⟩,
 ⟨some 39,.slen (.t 38),none⟩,
 ⟨some 40,.bin .gtr (.t 39) (.c (.d (.int .i64 24))),none⟩,
 ⟨some 36,.mv (.t 40),none⟩] [4,6,7,36])
 (.cond (.t 36) (.seq (.reg [⟨some 41,.bld [(.d (.int .i64 0)),(.d (.str [])),(.d (.int .i64 0))] [],none⟩,
 ⟨none,.st (.t 4) (.t 41) 3,none⟩,
 ⟨some 5,.mv (.c (.d (.int .i64 9))),none⟩] [4,5])
 .ret)
 (.seq (.reg [⟨some 43,.mv (.t 7),none⟩,
 ⟨some 44,.call 95 [(.t 43)],none⟩,
 ⟨some 42,.mv (.t 44),none⟩] [4,6,42])
 (.cond (.t 42) (.reg [⟨some 45,.fld (.t 6) 0,none⟩,
 ⟨none,.st (.t 45) (.c (.d (.int .i64 2))) 1,none⟩] [4,6])
 (.seq (.reg [⟨some 47,.fld (.t 6) 1,none⟩,
 ⟨some 48,.ldl (.t 47) none,none⟩,
 ⟨some 49,.call 98 [(.t 48)],none⟩,
 ⟨some 46,.mv (.t 49),none⟩] [4,6,46])
 (.cond (.t 46) (.reg [⟨some 50,.fld (.t 6) 0,none⟩,
 ⟨none,.st (.t 50) (.c (.d (.int .i64 4))) 1,none⟩] [4,6])
 (.reg [⟨some 35,.fld (.t 6) 0,none⟩,
 ⟨none,.st (.t 35) (.c (.d (.int .i64 1))) 1,none⟩] [4,6])))))))))
 (.seq (.reg [⟨some 52,.mv (.t 7),none⟩,
 ⟨some 53,.call 99 [(.t 52)],none⟩,
 ⟨some 51,.mv (.t 53),none⟩] [0,1,4,6,7,51])
 (.cond (.t 51) (.seq (.reg [⟨some 54,.fld (.t 6) 0,none⟩,
 ⟨none,.st (.t 54) (.c (.d (.int .i64 3))) 1,none⟩] [0,1,4,6,7])
 (.seq (.reg [⟨some 55,.mv (.t 0),none⟩,
 ⟨some 56,.mv (.t 1),none⟩,
 ⟨some 57,.ssl (.t 55) (some (.t 56)) none,none⟩,
 ⟨some 58,.call 96 [(.t 57),(.c (.fn 99 [] []))],none⟩,
 ⟨some 59,.fld (.t 6) 1,none⟩,
 ⟨none,.st (.t 59) (.t 58) 1,none⟩] [4,6,7])
 (.seq (.seq (.reg [⟨some 60,.mv (.t 7),none⟩,
 ⟨some 61,.bin .eql (.t 60) (.c (.d (.int .u8 48))),none⟩,
 ⟨some 62,.mv (.t 61),none⟩,
 ⟨some 63,.fld (.t 6) 1,some (62,true)⟩,
 ⟨some 64,.ldl (.t 63) none,some (62,true)⟩,
 ⟨some 65,.slen (.t 64),some (62,true)⟩,
 ⟨some 66,.bin .gtr (.t 65) (.c (.d (.int .i64 1))),some (62,true)⟩,
 ⟨some 67,.pick (.t 62) (.t 66) (.c (.d (.bool false))),none⟩] [4,6,67])
 (.cond (.t 67) (.seq (.reg [⟨some 68,.bld [(.d (.int .i64 0)),(.d (.str [])),(.d (.int .i64 0))] [],none⟩,
 ⟨none,.st (.t 4) (.t 68) 3,none⟩,
 ⟨some 5,.mv (.c (.d (.int .i64 2))),none⟩] [4,5])
 .ret)
 .skip))
 (.seq (.reg [⟨some 69,.fld (.t 6) 1,none⟩,
 ⟨some 70,.ldl (.t 69) none,none⟩,
 ⟨some 71,.call 100 [(.t 70)],none⟩,
 ⟨some 72,.un .not (.t 71),none⟩] [4,6,72])
 (.cond (.t 72) (.seq (.reg [⟨some 73,.bld [(.d (.int .i64 0)),(.d (.str [])),(.d (.int .i64 0))] [],none⟩,
 ⟨none,.st (.t 4) (.t 73) 3,none⟩,
 ⟨some 5,.mv (.c (.d (.int .i64 9))),none⟩] [4,5])
 .ret)
 .skip)))))
 (.seq (.reg [⟨some 13,.fld (.t 6) 0,none⟩,
 ⟨none,.st (.t 13) (.c (.d (.int .i64 5))) 1,none⟩] [0,1,4,6])
 (.seq (.reg [⟨some 14,.mv (.t 0),none⟩,
 ⟨some 15,.mv (.t 1),none⟩,
 ⟨some 16,.ssl (.t 14) (some (.t 15)) none,none⟩,
 ⟨some 17,.call 101 [(.t 16)],none⟩,
 ⟨some 18,.fld (.t 6) 1,none⟩,
 ⟨none,.st (.t 18) (.t 17) 1,none⟩] [4,6])
 (.seq (.reg [⟨some 19,.fld (.t 6) 1,none⟩,
 ⟨some 20,.ldl (.t 19) none,none⟩,
 ⟨some 21,.bin .eql (.t 20) (.c (.d (.str []))),none⟩] [4,6,21])
 (.cond (.t 21) (.seq (.reg [⟨some 22,.bld [(.d (.int .i64 0)),(.d (.str [])),(.d (.int .i64 0))] [],none⟩,
 ⟨none,.st (.t 4) (.t 22) 3,none⟩,
 ⟨some 5,.mv (.c (.d (.int .i64 2))),none⟩] [4,5])
 .ret)
 .skip))))))))))
 (.seq (.reg [⟨some 74,.ldl (.t 6) (some 3),none⟩,
 ⟨none,.st (.t 4) (.t 74) 3,none⟩,
 ⟨some 5,.mv (.c (.d (.int .i64 0))),none⟩] [4,5])
 .ret))))
noncomputable def x_token_scan : Cx := ⟨Try.prog,91,Try.f91,75,[300038,300048,300064,300070,300020,300074],[],[.c 4 (some 3),.t 5]⟩
theorem g_token_scan : Good x_token_scan := ⟨Try.func91,by kernel_rfl⟩
theorem rs_token_scan : x_token_scan.rs = [.c 4 (some 3),.t 5] := rfl
theorem i_token_scan (hl : args.length ≤ 75) (h : Run x_token_scan K [.code c_token_scan] (argF args) E σ) : ACalls Try.prog 91 args σ K :=
  acalls_of (cx := x_token_scan) (code := Try.f91.body.getD .skip) g_token_scan (by kernel_rfl) Try.ntmps91 hl (compC_rc x_token_scan _ (ctOf c_token_scan) _ [] (by kernel_rfl)) h
def c_slices_ContainsFunc_api_Alt : C := (.seq (.reg [⟨some 4,.mv (.c (.d (.bool false))),none⟩] [0,1])
 (.seq (.reg [⟨some 5,.mv (.t 0),none⟩,
 ⟨some 6,.mv (.t 1),none⟩,
 ⟨some 7,.call 102 [(.t 5),(.t 6)],none⟩,
 ⟨some 8,.bin .geq (.t 7) (.c (.d (.int .i64 0))),none⟩,
 ⟨some 4,.mv (.t 8),none⟩] [4])
 .ret))
noncomputable def x_slices_ContainsFunc_api_Alt : Cx := ⟨Try.prog,92,Try.f92,9,[],[],[.t 4]⟩
theorem g_slices_ContainsFunc_api_Alt : Good x_slices_ContainsFunc_api_Alt := ⟨Try.func92,by kernel_rfl⟩
theorem rs_slices_ContainsFunc_api_Alt : x_slices_ContainsFunc_api_Alt.rs = [.t 4] := rfl
theorem i_slices_ContainsFunc_api_Alt (hl : args.length ≤ 9) (h : Run x_slices_ContainsFunc_api_Alt K [.code c_slices_ContainsFunc_api_Alt] (argF args) E σ) : ACalls Try.prog 92 args σ K :=
  acalls_of (cx := x_slices_ContainsFunc_api_Alt) (code := Try.f92.body.getD .skip) g_slices_ContainsFunc_api_Alt (by kernel_rfl) Try.ntmps92 hl (compC_rc x_slices_ContainsFunc_api_Alt _ (ctOf c_slices_ContainsFunc_api_Alt) _ [] (by kernel_rfl)) h
def c_syntax_all_1_api_Alt : C := (.seq (.reg [⟨some 2,.box (.t 0) false,none⟩,
 ⟨some 3,.mv (.c (.d (.bool false))),none⟩] [1,2])
 (.seq (.reg [⟨some 4,.ld (.t 1) none,none⟩,
 ⟨some 5,.ldl (.t 2) (some 8),none⟩,
 ⟨some 6,.callv (.t 4) [(.t 5)],none⟩,
 ⟨some 7,.un .not (.t 6),none⟩,
 ⟨some 3,.mv (.t 7),none⟩] [3])
 .ret))
noncomputable def x_syntax_all_1_api_Alt : Cx := ⟨Try.prog,93,Try.f93,8,[300005],[],[.t 3]⟩
theorem g_syntax_all_1_api_Alt : Good x_syntax_all_1_api_Alt := ⟨Try.func93,by kernel_rfl⟩
theorem rs_syntax_all_1_api_Alt : x_syntax_all_1_api_Alt.rs = [.t 3] := rfl
theorem i_syntax_all_1_api_Alt (hl : args.length ≤ 8) (h : Run x_syntax_all_1_api_Alt K [.code c_syntax_all_1_api_Alt] (argF args) E σ) : ACalls Try.prog 93 args σ K :=
  acalls_of (cx := x_syntax_all_1_api_Alt) (code := Try.f93.body.getD .skip) g_syntax_all_1_api_Alt (by kernel_rfl) Try.ntmps93 hl (compC_rc x_syntax_all_1_api_Alt _ (ctOf c_syntax_all_1_api_Alt) _ [] (by kernel_rfl)) h
def c_token_lower : C := (.seq (.reg [⟨some 2,.mv (.c (.d (.bool false))),none⟩] [0])
 (.seq (.reg [⟨some 3,.mv (.t 0),none⟩,
 ⟨some 4,.bin .geq (.t 3) (.c (.d (.int .u8 97))),none⟩,
 ⟨some 5,.mv (.t 4),none⟩,
 ⟨some 6,.mv (.t 0),some (5,true)⟩,
 ⟨some 7,.bin .leq (.t 6) (.c (.d (.int .u8 122))),some (5,true)⟩,
 ⟨some 8,.pick (.t 5) (.t 7) (.c (.d (.bool false))),none⟩,
 ⟨some 2,.mv (.t 8),none⟩] [2])
 .ret))
noncomputable def x_token_lower : Cx := ⟨Try.prog,94,Try.f94,9,[],[],[.t 2]⟩
theorem g_token_lower : Good x_token_lower := ⟨Try.func94,by kernel_rfl⟩
theorem rs_token_lower : x_token_lower.rs = [.t 2] := rfl
theorem i_token_lower (hl : args.length ≤ 9) (h : Run x_token_lower K [.code c_token_lower] (argF args) E σ) : ACalls Try.prog 94 args σ K :=
  acalls_of (cx := x_token_lower) (code := Try.f94.body.getD .skip) g_token_lower (by kernel_rfl) Try.ntmps94 hl (compC_rc x_token_lower _ (ctOf c_token_lower) _ [] (by kernel_rfl)) h
def c_token_upper : C := (.seq (.reg [⟨some 2,.mv (.c (.d (.bool false))),none⟩] [0])
 (.seq (.reg [⟨some 3,.mv (.t 0),none⟩,
 ⟨some 4,.bin .geq (.t 3) (.c (.d (.int .u8 65))),none⟩,
 ⟨some 5,.mv (.t 4),none⟩,
 ⟨some 6,.mv (.t 0),some (5,true)⟩,
 ⟨some 7,.bin .leq (.t 6) (.c (.d (.int .u8 90))),some (5,true)⟩,
 ⟨some 8,.pick (.t 5) (.t 7) (.c (.d (.bool false))),none⟩,
 ⟨some 2,.mv (.t 8),none⟩] [2])
 .ret))
noncomputable def x_token_upper : Cx := ⟨Try.prog,95,Try.f95,9,[],[],[.t 2]⟩
theorem g_token_upper : Good x_token_upper := ⟨Try.func95,by kernel_rfl⟩
theorem rs_token_upper : x_token_upper.rs = [.t 2] := rfl
theorem i_token_upper (hl : args.length ≤ 9) (h : Run x_token_upper K [.code c_token_upper] (argF args) E σ) : ACalls Try.prog 95 args σ K :=
  acalls_of (cx := x_token_upper) (code := Try.f95.body.getD .skip) g_token_upper (by kernel_rfl) Try.ntmps95 hl (compC_rc x_token_upper _ (ctOf c_token_upper) _ [] (by kernel_rfl)) h
def c_token_prefix_L0 : C := (.seq (.seq (.reg [⟨some 6,.mv (.t 5),none⟩,
 ⟨some 7,.mv (.t 0),none⟩,
 ⟨some 8,.slen (.t 7),none⟩,
 ⟨some 9,.bin .lss (.t 6) (.t 8),none⟩,
 ⟨some 10,.mv (.t 9),none⟩,
 ⟨some 11,.mv (.t 1),some (10,true)⟩,
 ⟨some 12,.mv (.t 0),some (10,true)⟩,
 ⟨some 13,.mv (.t 5),some (10,true)⟩,
 ⟨some 14,.sidx (.t 12) (.t 13),some (10,true)⟩,
 ⟨some 15,.callv (.t 11) [(.t 14)],some (10,true)⟩,
 ⟨some 16,.pick (.t 10) (.t 15) (.c (.d (.bool false))),none⟩] [0,1,5,16])
 (.cond (.t 16) .skip
 (.exit 0)))
 (.block 1 (.reg [⟨some 17,.mv (.t 5),none⟩,
 ⟨some 18,.bin .add (.t 17) (.c (.d (.int .i64 1))),none⟩,
 ⟨some 5,.mv (.t 18),none⟩] [0,1,5])))
def c_token_prefix : C := (.seq (.reg [⟨some 4,.mv (.c (.d (.str []))),none⟩] [0,1])
 (.seq (.reg [⟨some 5,.mv (.c (.d (.int .i64 0))),none⟩] [0,1,5])
 (.seq (.block 0 (.loop c_token_prefix_L0))
 (.seq (.reg [⟨some 19,.mv (.t 0),none⟩,
 ⟨some 20,.mv (.t 5),none⟩,
 ⟨some 21,.ssl (.t 19) none (some (.t 20)),none⟩,
 ⟨some 4,.mv (.t 21),none⟩] [4])
 .ret))))
noncomputable def x_token_prefix : Cx := ⟨Try.prog,96,Try.f96,22,[],[],[.t 4]⟩
theorem g_token_prefix : Good x_token_prefix := ⟨Try.func96,by kernel_rfl⟩
theorem rs_token_prefix : x_token_prefix.rs = [.t 4] := rfl
theorem i_token_prefix (hl : args.length ≤ 22) (h : Run x_token_prefix K [.code c_token_prefix] (argF args) E σ) : ACalls Try.prog 96 args σ K :=
  acalls_of (cx := x_token_prefix) (code := Try.f96.body.getD .skip) g_token_prefix (by kernel_rfl) Try.ntmps96 hl (compC_rc x_token_prefix _ (ctOf c_token_prefix) _ [] (by kernel_rfl)) h
def c_token_within : C := (.seq (.reg [⟨some 2,.mv (.c (.d (.bool false))),none⟩] [0])
 (.seq (.reg [⟨some 3,.mv (.t 0),none⟩,
 ⟨some 4,.call 94 [(.t 3)],none⟩,
 ⟨some 5,.mv (.t 4),none⟩,
 ⟨some 6,.mv (.t 0),some (5,false)⟩,
 ⟨some 7,.call 95 [(.t 6)],some (5,false)⟩,
 ⟨some 8,.pick (.t 5) (.c (.d (.bool true))) (.t 7),none⟩,
 ⟨some 9,.mv (.t 8),none⟩,
 ⟨some 10,.mv (.t 0),some (9,false)⟩,
 ⟨some 11,.call 99 [(.t 10)],some (9,false)⟩,
 ⟨some 12,.pick (.t 9) (.c (.d (.bool true))) (.t 11),none⟩,
 ⟨some 13,.mv (.t 12),none⟩,
 ⟨some 14,.mv (.t 0),some (13,false)⟩,
 ⟨some 15,.bin .eql (.t 14) (.c (.d (.int .u8 95))),some (13,false)⟩,
 ⟨some 16,.pick (.t 13) (.c (.d (.bool true))) (.t 15),none⟩,
 ⟨some 2,.mv (.t 16),none⟩] [2])
 .ret))
noncomputable def x_token_within : Cx := ⟨Try.prog,97,Try.f97,17,[],[],[.t 2]⟩
theorem g_token_within : Good x_token_within := ⟨Try.func97,by kernel_rfl⟩
theorem rs_token_within : x_token_within.rs = [.t 2] := rfl
theorem i_token_within (hl : args.length ≤ 17) (h : Run x_token_within K [.code c_token_within] (argF args) E σ) : ACalls Try.prog 97 args σ K :=
  acalls_of (cx := x_token_within) (code := Try.f97.body.getD .skip) g_token_within (by kernel_rfl) Try.ntmps97 hl (compC_rc x_token_within _ (ctOf c_token_within) _ [] (by kernel_rfl)) h
def c_token_Keyword : C := (.seq (.reg [⟨some 2,.mv (.c (.d (.bool false))),none⟩] [0])
 (.seq (.seq (.reg [⟨some 3,.mv (.t 0),none⟩] [3])
 (.block 0 (.seq (.seq (.reg [⟨some 5,.bin .eql (.t 3) (.c (.d (.str [97,114,114,97,121]))),none⟩,
 ⟨some 4,.mv (.t 5),none⟩] [3,4])
 (.cond (.t 4) .skip
 (.seq (.reg [⟨some 6,.bin .eql (.t 3) (.c (.d (.str [98,111,111,108]))),none⟩,
 ⟨some 4,.mv (.t 6),none⟩] [3,4])
 (.cond (.t 4) .skip
 (.seq (.reg [⟨some 7,.bin .eql (.t 3) (.c (.d (.str [99,97,116,99,104]))),none⟩,
 ⟨some 4,.mv (.t 7),none⟩] [3,4])
 (.cond (.t 4) .skip
 (.seq (.reg [⟨some 8,.bin .eql (.t 3) (.c (.d (.str [100,97,116,97]))),none⟩,
 ⟨some 4,.mv (.t 8),none⟩] [3,4])
 (.cond (.t 4) .skip
 (.seq (.reg [⟨some 9,.bin .eql (.t 3) (.c (.d (.str [101,108,115,101]))),none⟩,
 ⟨some 4,.mv (.t 9),none⟩] [3,4])
 (.cond (.t 4) .skip
 (.seq (.reg [⟨some 10,.bin .eql (.t 3) (.c (.d (.str [101,110,100]))),none⟩,
 ⟨some 4,.mv (.t 10),none⟩] [3,4])
 (.cond (.t 4) .skip
 (.seq (.reg [⟨some 11,.bin .eql (.t 3) (.c (.d (.str [102,97,108,115,101]))),none⟩,
 ⟨some 4,.mv (.t 11),none⟩] [3,4])
 (.cond (.t 4) .skip
 (.seq (.reg [⟨some 12,.bin .eql (.t 3) (.c (.d (.str [102,110]))),none⟩,
 ⟨some 4,.mv (.t 12),none⟩] [3,4])
 (.cond (.t 4) .skip
 (.seq (.reg [⟨some 13,.bin .eql (.t 3) (.c (.d (.str [102,117,110]))),none⟩,
 ⟨some 4,.mv (.t 13),none⟩] [3,4])
 (.cond (.t 4) .skip
 (.seq (.reg [⟨some 14,.bin .eql (.t 3) (.c (.d (.str [103,101,116]))),none⟩,
 ⟨some 4,.mv (.t 14),none⟩] [3,4])
 (.cond (.t 4) .skip
 (.seq (.reg [⟨some 15,.bin .eql (.t 3) (.c (.d (.str [105,102]))),none⟩,
 ⟨some 4,.mv (.t 15),none⟩] [3,4])
 (.cond (.t 4) .skip
 (.seq (.reg [⟨some 16,.bin .eql (.t 3) (.c (.d (.str [105,110]))),none⟩,
 ⟨some 4,.mv (.t 16),none⟩] [3,4])
 (.cond (.t 4) .skip
 (.seq (.reg [⟨some 17,.bin .eql (.t 3) (.c (.d (.str [105,110,116]))),none⟩,
 ⟨some 4,.mv (.t 17),none⟩] [3,4])
 (.cond (.t 4) .skip
 (.seq (.reg [⟨some 18,.bin .eql (.t 3) (.c (.d (.str [108,101,110]))),none⟩,
 ⟨some 4,.mv (.t 18),none⟩] [3,4])
 (.cond (.t 4) .skip
 (.seq (.reg [⟨some 19,.bin .eql (.t 3) (.c (.d (.str [108,101,116]))),none⟩,
 ⟨some 4,.mv (.t 19),none⟩] [3,4])
 (.cond (.t 4) .skip
 (.seq (.reg [⟨some 20,.bin .eql (.t 3) (.c (.d (.str [109,97,116,99,104]))),none⟩,
 ⟨some 4,.mv (.t 20),none⟩] [3,4])
 (.cond (.t 4) .skip
 (.seq (.reg [⟨some 21,.bin .eql (.t 3) (.c (.d (.str [110,101,119]))),none⟩,
 ⟨some 4,.mv (.t 21),none⟩] [3,4])
 (.cond (.t 4) .skip
 (.seq (.reg [⟨some 22,.bin .eql (.t 3) (.c (.d (.str [114,97,105,115,101]))),none⟩,
 ⟨some 4,.mv (.t 22),none⟩] [3,4])
 (.cond (.t 4) .skip
 (.seq (.reg [⟨some 23,.bin .eql (.t 3) (.c (.d (.str [114,101,97,100]))),none⟩,
 ⟨some 4,.mv (.t 23),none⟩] [3,4])
 (.cond (.t 4) .skip
 (.seq (.reg [⟨some 24,.bin .eql (.t 3) (.c (.d (.str [114,101,102]))),none⟩,
 ⟨some 4,.mv (.t 24),none⟩] [3,4])
 (.cond (.t 4) .skip
 (.seq (.reg [⟨some 25,.bin .eql (.t 3) (.c (.d (.str [115,101,116]))),none⟩,
 ⟨some 4,.mv (.t 25),none⟩] [3,4])
 (.cond (.t 4) .skip
 (.seq (.reg [⟨some 26,.bin .eql (.t 3) (.c (.d (.str [116,104,101,110]))),none⟩,
 ⟨some 4,.mv (.t 26),none⟩] [3,4])
 (.cond (.t 4) .skip
 (.seq (.reg [⟨some 27,.bin .eql (.t 3) (.c (.d (.str [116,105,99,107]))),none⟩,
 ⟨some 4,.mv (.t 27),none⟩] [3,4])
 (.cond (.t 4) .skip
 (.seq (.reg [⟨some 28,.bin .eql (.t 3) (.c (.d (.str [116,114,117,101]))),none⟩,
 ⟨some 4,.mv (.t 28),none⟩] [3,4])
 (.cond (.t 4) .skip
 (.seq (.reg [⟨some 29,.bin .eql (.t 3) (.c (.d (.str [116,114,121]))),none⟩,
 ⟨some 4,.mv (.t 29),none⟩] [3,4])
 (.cond (.t 4) .skip
 (.seq (.reg [⟨some 30,.bin .eql (.t 3) (.c (.d (.str [117,110,105,116]))),none⟩,
 ⟨some 4,.mv (.t 30),none⟩] [3,4])
 (.cond (.t 4) .skip
 (.seq (.reg [⟨some 31,.bin .eql (.t 3) (.c (.d (.str [119,105,116,104]))),none⟩,
 ⟨some 4,.mv (.t 31),none⟩] [3,4])
 (.cond (.t 4) .skip
 (.reg [⟨some 32,.bin .eql (.t 3) (.c (.d (.str [119,114,105,116,101]))),none⟩,
 ⟨some 4,.mv (.t 32),none⟩] [4])))))))))))))))))))))))))))))))))))))))))))))))))))))))
 (.cond (.t 4) (.seq (.reg [⟨some 2,.mv (.c (.d (.bool true))),none⟩] [2])
 .ret)
 .skip))))
 (.seq (.reg [⟨some 2,.mv (.c (.d (.bool false))),none⟩] [2])
 .ret)))
noncomputable def x_token_Keyword : Cx := ⟨Try.prog,98,Try.f98,33,[],[],[.t 2]⟩
theorem g_token_Keyword : Good x_token_Keyword := ⟨Try.func98,by kernel_rfl⟩
theorem rs_token_Keyword : x_token_Keyword.rs = [.t 2] := rfl
theorem i_token_Keyword (hl : args.length ≤ 33) (h : Run x_token_Keyword K [.code c_token_Keyword] (argF args) E σ) : ACalls Try.prog 98 args σ K :=
  acalls_of (cx := x_token_Keyword) (code := Try.f98.body.getD .skip) g_token_Keyword (by kernel_rfl) Try.ntmps98 hl (compC_rc x_token_Keyword _ (ctOf c_token_Keyword) _ [] (by kernel_rfl)) h
def c_token_digit : C := (.seq (.reg [⟨some 2,.mv (.c (.d (.bool false))),none⟩] [0])
 (.seq (.reg [⟨some 3,.mv (.t 0),none⟩,
 ⟨some 4,.bin .geq (.t 3) (.c (.d (.int .u8 48))),none⟩,
 ⟨some 5,.mv (.t 4),none⟩,
 ⟨some 6,.mv (.t 0),some (5,true)⟩,
 ⟨some 7,.bin .leq (.t 6) (.c (.d (.int .u8 57))),some (5,true)⟩,
 ⟨some 8,.pick (.t 5) (.t 7) (.c (.d (.bool false))),none⟩,
 ⟨some 2,.mv (.t 8),none⟩] [2])
 .ret))
noncomputable def x_token_digit : Cx := ⟨Try.prog,99,Try.f99,9,[],[],[.t 2]⟩
theorem g_token_digit : Good x_token_digit := ⟨Try.func99,by kernel_rfl⟩
theorem rs_token_digit : x_token_digit.rs = [.t 2] := rfl
theorem i_token_digit (hl : args.length ≤ 9) (h : Run x_token_digit K [.code c_token_digit] (argF args) E σ) : ACalls Try.prog 99 args σ K :=
  acalls_of (cx := x_token_digit) (code := Try.f99.body.getD .skip) g_token_digit (by kernel_rfl) Try.ntmps99 hl (compC_rc x_token_digit _ (ctOf c_token_digit) _ [] (by kernel_rfl)) h
def c_token_small_L0 : C := (.seq (.reg [⟨some 8,.bin .lss (.t 7) (.t 6),none⟩] [0,3,6,7,8])
 (.seq (.cond (.t 8) .skip
 (.exit 0))
 (.seq (.block 1 (.seq (.reg [⟨some 9,.mv (.t 7),none⟩,
 ⟨some 4,.mv (.t 9),none⟩] [0,3,4,6,7])
 (.seq (.reg [⟨some 10,.mv (.t 3),none⟩,
 ⟨some 11,.bin .mul (.t 10) (.c (.d (.int .i64 10))),none⟩,
 ⟨some 12,.mv (.t 0),none⟩,
 ⟨some 13,.mv (.t 4),none⟩,
 ⟨some 14,.sidx (.t 12) (.t 13),none⟩,
 ⟨some 15,.bin .sub (.t 14) (.c (.d (.int .u8 48))),none⟩,
 ⟨some 16,.conv .i64 (.t 15),none⟩,
 ⟨some 17,.bin .add (.t 11) (.t 16),none⟩,
 ⟨some 3,.mv (.t 17),none⟩] [0,3,6,7])
 (.seq (.reg [⟨some 18,.mv (.t 3),none⟩,
 ⟨some 19,.bin .gtr (.t 18) (.c (.d (.int .i64 1000000))),none⟩] [0,3,6,7,19])
 (.cond (.t 19) (.seq (.reg [⟨some 2,.mv (.c (.d (.bool false))),none⟩] [2])
 .ret)
 .skip)))))
 (.reg [⟨some 20,.bin .add (.t 7) (.c (.d (.int .i64 1))),none⟩,
 ⟨some 7,.mv (.t 20),none⟩] [0,3,6,7]))))
def c_token_small : C := (.seq (.reg [⟨some 2,.mv (.c (.d (.bool false))),none⟩] [0])
 (.seq (.reg [⟨some 3,.mv (.c (.d (.int .i64 0))),none⟩] [0,3])
 (.seq (.seq (.reg [⟨some 5,.mv (.t 0),none⟩,
 ⟨some 6,.slen (.t 5),none⟩,
 ⟨some 7,.mv (.c (.d (.int .i64 0))),none⟩] [0,3,6,7])
 (.block 0 (.loop c_token_small_L0)))
 (.seq (.reg [⟨some 2,.mv (.c (.d (.bool true))),none⟩] [2])
 .ret))))
noncomputable def x_token_small : Cx := ⟨Try.prog,100,Try.f100,21,[],[],[.t 2]⟩
theorem g_token_small : Good x_token_small := ⟨Try.func100,by kernel_rfl⟩
theorem rs_token_small : x_token_small.rs = [.t 2] := rfl
theorem i_token_small (hl : args.length ≤ 21) (h : Run x_token_small K [.code c_token_small] (argF args) E σ) : ACalls Try.prog 100 args σ K :=
  acalls_of (cx := x_token_small) (code := Try.f100.body.getD .skip) g_token_small (by kernel_rfl) Try.ntmps100 hl (compC_rc x_token_small _ (ctOf c_token_small) _ [] (by kernel_rfl)) h
def c_token_sign : C := (.seq (.reg [⟨some 2,.mv (.c (.d (.str []))),none⟩] [0])
 (.seq (.seq (.reg [⟨some 3,.mv (.t 0),none⟩,
 ⟨some 4,.slen (.t 3),none⟩,
 ⟨some 5,.bin .geq (.t 4) (.c (.d (.int .i64 2))),none⟩] [0,5])
 (.cond (.t 5) (.seq (.reg [⟨some 6,.mv (.t 0),none⟩,
 ⟨some 7,.ssl (.t 6) none (some (.c (.d (.int .i64 2)))),none⟩] [0,7])
 (.block 0 (.seq (.seq (.reg [⟨some 9,.bin .eql (.t 7) (.c (.d (.str [45,62]))),none⟩,
 ⟨some 8,.mv (.t 9),none⟩] [0,7,8])
 (.cond (.t 8) .skip
 (.seq (.reg [⟨some 10,.bin .eql (.t 7) (.c (.d (.str [60,61]))),none⟩,
 ⟨some 8,.mv (.t 10),none⟩] [0,7,8])
 (.cond (.t 8) .skip
 (.reg [⟨some 11,.bin .eql (.t 7) (.c (.d (.str [61,61]))),none⟩,
 ⟨some 8,.mv (.t 11),none⟩] [0,8])))))
 (.cond (.t 8) (.seq (.reg [⟨some 12,.mv (.t 0),none⟩,
 ⟨some 13,.ssl (.t 12) none (some (.c (.d (.int .i64 2)))),none⟩,
 ⟨some 2,.mv (.t 13),none⟩] [2])
 .ret)
 .skip))))
 .skip))
 (.seq (.seq (.reg [⟨some 14,.mv (.t 0),none⟩,
 ⟨some 15,.ssl (.t 14) none (some (.c (.d (.int .i64 1)))),none⟩] [0,15])
 (.block 1 (.seq (.seq (.reg [⟨some 17,.bin .eql (.t 15) (.c (.d (.str [40]))),none⟩,
 ⟨some 16,.mv (.t 17),none⟩] [0,15,16])
 (.cond (.t 16) .skip
 (.seq (.reg [⟨some 18,.bin .eql (.t 15) (.c (.d (.str [41]))),none⟩,
 ⟨some 16,.mv (.t 18),none⟩] [0,15,16])
 (.cond (.t 16) .skip
 (.seq (.reg [⟨some 19,.bin .eql (.t 15) (.c (.d (.str [44]))),none⟩,
 ⟨some 16,.mv (.t 19),none⟩] [0,15,16])
 (.cond (.t 16) .skip
 (.seq (.reg [⟨some 20,.bin .eql (.t 15) (.c (.d (.str [61]))),none⟩,
 ⟨some 16,.mv (.t 20),none⟩] [0,15,16])
 (.cond (.t 16) .skip
 (.seq (.reg [⟨some 21,.bin .eql (.t 15) (.c (.d (.str [124]))),none⟩,
 ⟨some 16,.mv (.t 21),none⟩] [0,15,16])
 (.cond (.t 16) .skip
 (.seq (.reg [⟨some 22,.bin .eql (.t 15) (.c (.d (.str [43]))),none⟩,
 ⟨some 16,.mv (.t 22),none⟩] [0,15,16])
 (.cond (.t 16) .skip
 (.seq (.reg [⟨some 23,.bin .eql (.t 15) (.c (.d (.str [45]))),none⟩,
 ⟨some 16,.mv (.t 23),none⟩] [0,15,16])
 (.cond (.t 16) .skip
 (.seq (.reg [⟨some 24,.bin .eql (.t 15) (.c (.d (.str [42]))),none⟩,
 ⟨some 16,.mv (.t 24),none⟩] [0,15,16])
 (.cond (.t 16) .skip
 (.seq (.reg [⟨some 25,.bin .eql (.t 15) (.c (.d (.str [47]))),none⟩,
 ⟨some 16,.mv (.t 25),none⟩] [0,15,16])
 (.cond (.t 16) .skip
 (.seq (.reg [⟨some 26,.bin .eql (.t 15) (.c (.d (.str [37]))),none⟩,
 ⟨some 16,.mv (.t 26),none⟩] [0,15,16])
 (.cond (.t 16) .skip
 (.seq (.reg [⟨some 27,.bin .eql (.t 15) (.c (.d (.str [60]))),none⟩,
 ⟨some 16,.mv (.t 27),none⟩] [0,15,16])
 (.cond (.t 16) .skip
 (.seq (.reg [⟨some 28,.bin .eql (.t 15) (.c (.d (.str [59]))),none⟩,
 ⟨some 16,.mv (.t 28),none⟩] [0,15,16])
 (.cond (.t 16) .skip
 (.reg [⟨some 29,.bin .eql (.t 15) (.c (.d (.str [95]))),none⟩,
 ⟨some 16,.mv (.t 29),none⟩] [0,16])))))))))))))))))))))))))
 (.cond (.t 16) (.seq (.reg [⟨some 30,.mv (.t 0),none⟩,
 ⟨some 31,.ssl (.t 30) none (some (.c (.d (.int .i64 1)))),none⟩,
 ⟨some 2,.mv (.t 31),none⟩] [2])
 .ret)
 .skip))))
 (.seq (.reg [⟨some 2,.mv (.c (.d (.str []))),none⟩] [2])
 .ret))))
noncomputable def x_token_sign : Cx := ⟨Try.prog,101,Try.f101,32,[],[],[.t 2]⟩
theorem g_token_sign : Good x_token_sign := ⟨Try.func101,by kernel_rfl⟩
theorem rs_token_sign : x_token_sign.rs = [.t 2] := rfl
theorem i_token_sign (hl : args.length ≤ 32) (h : Run x_token_sign K [.code c_token_sign] (argF args) E σ) : ACalls Try.prog 101 args σ K :=
  acalls_of (cx := x_token_sign) (code := Try.f101.body.getD .skip) g_token_sign (by kernel_rfl) Try.ntmps101 hl (compC_rc x_token_sign _ (ctOf c_token_sign) _ [] (by kernel_rfl)) h
def c_slices_IndexFunc_api_Alt_L0 : C := (.seq (.reg [⟨some 9,.bin .lss (.t 8) (.t 7),none⟩] [0,1,7,8,9])
 (.seq (.cond (.t 9) .skip
 (.exit 0))
 (.seq (.block 1 (.seq (.reg [⟨some 10,.mv (.t 8),none⟩,
 ⟨some 5,.mv (.t 10),none⟩] [0,1,5,7,8])
 (.seq (.reg [⟨some 11,.mv (.t 1),none⟩,
 ⟨some 12,.mv (.t 0),none⟩,
 ⟨some 13,.mv (.t 5),none⟩,
 ⟨some 14,.ix (.t 12) (.t 13) 8,none⟩,
 ⟨some 15,.ld (.t 14) (some 8),none⟩,
 ⟨some 16,.callv (.t 11) [(.t 15)],none⟩] [0,1,5,7,8,16])
 (.cond (.t 16) (.seq (.reg [⟨some 17,.mv (.t 5),none⟩,
 ⟨some 4,.mv (.t 17),none⟩] [4])
 .ret)
 .skip))))
 (.reg [⟨some 18,.bin .add (.t 8) (.c (.d (.int .i64 1))),none⟩,
 ⟨some 8,.mv (.t 18),none⟩] [0,1,7,8]))))
def c_slices_IndexFunc_api_Alt : C := (.seq (.reg [⟨some 4,.mv (.c (.d (.int .i64 0))),none⟩] [0,1])
 (.seq (.seq (.reg [⟨some 6,.mv (.t 0),none⟩,
 ⟨some 7,.len (.t 6),none⟩,
 ⟨some 8,.mv (.c (.d (.int .i64 0))),none⟩] [0,1,7,8])
 (.block 0 (.loop c_slices_IndexFunc_api_Alt_L0)))
 (.seq (.reg [⟨some 4,.mv (.c (.d (.int .i64 (-1)))),none⟩] [4])
 .ret)))
noncomputable def x_slices_IndexFunc_api_Alt : Cx := ⟨Try.prog,102,Try.f102,19,[],[],[.t 4]⟩
theorem g_slices_IndexFunc_api_Alt : Good x_slices_IndexFunc_api_Alt := ⟨Try.func102,by kernel_rfl⟩
theorem rs_slices_IndexFunc_api_Alt : x_slices_IndexFunc_api_Alt.rs = [.t 4] := rfl
theorem i_slices_IndexFunc_api_Alt (hl : args.length ≤ 19) (h : Run x_slices_IndexFunc_api_Alt K [.code c_slices_IndexFunc_api_Alt] (argF args) E σ) : ACalls Try.prog 102 args σ K :=
  acalls_of (cx := x_slices_IndexFunc_api_Alt) (code := Try.f102.body.getD .skip) g_slices_IndexFunc_api_Alt (by kernel_rfl) Try.ntmps102 hl (compC_rc x_slices_IndexFunc_api_Alt _ (ctOf c_slices_IndexFunc_api_Alt) _ [] (by kernel_rfl)) h
attribute [go_sem] rs_r4_Valid rs_syntax_Valid rs_r4_single rs_r4_binds rs_r4_validType rs_r4_validExpr rs_syntax_validData rs_syntax_isName rs_syntax_all_string rs_syntax_counter_expr rs_r3_Split rs_r4_primArity rs_syntax_isUpper rs_syntax_all_api_ConExpr rs_syntax_validData_1 rs_syntax_all_api_TypeExpr rs_syntax_validData_1_1 rs_syntax_validType rs_syntax_isToken rs_slices_ContainsFunc_string rs_syntax_all_1_string rs_syntax_validNode rs_r3_lower rs_r3_upper rs_r3_digit rs_r3_Keyword rs_r3_Value rs_r3_sign rs_slices_ContainsFunc_api_ConExpr rs_syntax_all_1_api_ConExpr rs_slices_ContainsFunc_api_TypeExpr rs_syntax_all_1_api_TypeExpr rs_syntax_validType_1 rs_token_Split rs_slices_IndexFunc_string rs_syntax_validLeaf rs_syntax_plain rs_syntax_isBind rs_syntax_all_api_Alt rs_syntax_validAlt rs_syntax_between rs_syntax_primitive rs_slices_IndexFunc_api_ConExpr rs_slices_IndexFunc_api_TypeExpr rs_token_blank rs_token_scan rs_slices_ContainsFunc_api_Alt rs_syntax_all_1_api_Alt rs_token_lower rs_token_upper rs_token_prefix rs_token_within rs_token_Keyword rs_token_digit rs_token_small rs_token_sign rs_slices_IndexFunc_api_Alt
end Go.Ab
