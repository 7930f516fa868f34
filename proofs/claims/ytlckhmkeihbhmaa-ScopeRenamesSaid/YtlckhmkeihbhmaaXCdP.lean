/- The compact codes of the functions of this seat, computed out of the translation. Conditions: none. -/
import Derived.Test.YtlckhmkeihbhmaaProg
import Derived.KernelRfl
import Derived.Test.YtlckhmkeihbhmaaXTn
set_option linter.unusedSimpArgs false
namespace Go.Ab
open Go.Proofs
variable {args : List AV} {σ : Heap} {K : AV → Heap → Prop}
def c_keep_Prog_L0 : C := (.seq (.reg [⟨some 66,.bin .lss (.t 65) (.t 64),none⟩] [1,3,23,24,25,46,47,48,63,64,65,66])
 (.seq (.cond (.t 66) .skip
 (.exit 4))
 (.seq (.block 5 (.seq (.reg [⟨some 67,.ix (.t 63) (.t 65) 3,none⟩,
 ⟨some 68,.ld (.t 67) (some 3),none⟩,
 ⟨some 9,.al [(.d (.int .i64 0)),(.d (.str [])),.nils] false,none⟩,
 ⟨none,.st (.t 9) (.t 68) 3,none⟩] [1,3,9,23,24,25,46,47,48,63,64,65])
 (.seq (.reg [⟨some 69,.ldl (.t 9) (some 3),none⟩,
 ⟨some 70,.call 13 [(.t 69),(.t 3)],none⟩,
 ⟨some 71,.un .not (.t 70),none⟩] [1,3,23,24,25,46,47,48,63,64,65,71])
 (.cond (.t 71) (.seq (.reg [⟨some 2,.mv (.c (.d (.bool false))),none⟩] [2])
 .ret)
 .skip))))
 (.reg [⟨some 72,.bin .add (.t 65) (.c (.d (.int .i64 1))),none⟩,
 ⟨some 65,.mv (.t 72),none⟩] [1,3,23,24,25,46,47,48,63,64,65]))))
def c_keep_Prog_L1 : C := (.seq (.reg [⟨some 49,.bin .lss (.t 48) (.t 47),none⟩] [1,3,23,24,25,46,47,48,49])
 (.seq (.cond (.t 49) .skip
 (.exit 2))
 (.seq (.block 3 (.seq (.reg [⟨some 50,.ix (.t 46) (.t 48) 2,none⟩,
 ⟨some 51,.ld (.t 50) (some 2),none⟩,
 ⟨some 7,.al [(.d (.str [])),.nils] false,none⟩,
 ⟨none,.st (.t 7) (.t 51) 2,none⟩] [1,3,7,23,24,25,46,47,48])
 (.seq (.seq (.reg [⟨some 52,.fld (.t 7) 0,none⟩,
 ⟨some 53,.ldl (.t 52) none,none⟩,
 ⟨some 54,.slen (.t 53),none⟩,
 ⟨some 55,.bin .gtr (.t 54) (.c (.d (.int .i64 40))),none⟩,
 ⟨some 56,.mv (.t 55),none⟩,
 ⟨some 57,.fld (.t 7) 1,some (56,false)⟩,
 ⟨some 58,.ldl (.t 57) none,some (56,false)⟩,
 ⟨some 59,.len (.t 58),some (56,false)⟩,
 ⟨some 60,.bin .gtr (.t 59) (.c (.d (.int .i64 10))),some (56,false)⟩,
 ⟨some 61,.pick (.t 56) (.c (.d (.bool true))) (.t 60),none⟩] [1,3,7,23,24,25,46,47,48,61])
 (.cond (.t 61) (.seq (.reg [⟨some 2,.mv (.c (.d (.bool false))),none⟩] [2])
 .ret)
 .skip))
 (.seq (.reg [⟨some 62,.fld (.t 7) 1,none⟩,
 ⟨some 63,.ldl (.t 62) none,none⟩,
 ⟨some 64,.len (.t 63),none⟩,
 ⟨some 65,.mv (.c (.d (.int .i64 0))),none⟩] [1,3,23,24,25,46,47,48,63,64,65])
 (.block 4 (.loop c_keep_Prog_L0))))))
 (.reg [⟨some 73,.bin .add (.t 48) (.c (.d (.int .i64 1))),none⟩,
 ⟨some 48,.mv (.t 73),none⟩] [1,3,23,24,25,46,47,48]))))
def c_keep_Prog_L2 : C := (.seq (.reg [⟨some 26,.bin .lss (.t 25) (.t 24),none⟩] [1,3,23,24,25,26])
 (.seq (.cond (.t 26) .skip
 (.exit 0))
 (.seq (.block 1 (.seq (.reg [⟨some 27,.ix (.t 23) (.t 25) 3,none⟩,
 ⟨some 28,.ld (.t 27) (some 3),none⟩,
 ⟨some 5,.al [(.d (.str [])),.nils,.nils] false,none⟩,
 ⟨none,.st (.t 5) (.t 28) 3,none⟩] [1,3,5,23,24,25])
 (.seq (.seq (.reg [⟨some 29,.fld (.t 5) 0,none⟩,
 ⟨some 30,.ldl (.t 29) none,none⟩,
 ⟨some 31,.slen (.t 30),none⟩,
 ⟨some 32,.bin .gtr (.t 31) (.c (.d (.int .i64 40))),none⟩,
 ⟨some 33,.mv (.t 32),none⟩,
 ⟨some 34,.fld (.t 5) 1,some (33,false)⟩,
 ⟨some 35,.ldl (.t 34) none,some (33,false)⟩,
 ⟨some 36,.call 12 [(.t 35),(.c (.d (.int .i64 10)))],some (33,false)⟩,
 ⟨some 37,.un .not (.t 36),some (33,false)⟩,
 ⟨some 38,.pick (.t 33) (.c (.d (.bool true))) (.t 37),none⟩,
 ⟨some 39,.mv (.t 38),none⟩,
 ⟨some 40,.fld (.t 5) 2,some (39,false)⟩,
 ⟨some 41,.ldl (.t 40) none,some (39,false)⟩,
 ⟨some 42,.len (.t 41),some (39,false)⟩,
 ⟨some 43,.bin .gtr (.t 42) (.c (.d (.int .i64 10))),some (39,false)⟩,
 ⟨some 44,.pick (.t 39) (.c (.d (.bool true))) (.t 43),none⟩] [1,3,5,23,24,25,44])
 (.cond (.t 44) (.seq (.reg [⟨some 2,.mv (.c (.d (.bool false))),none⟩] [2])
 .ret)
 .skip))
 (.seq (.reg [⟨some 45,.fld (.t 5) 2,none⟩,
 ⟨some 46,.ldl (.t 45) none,none⟩,
 ⟨some 47,.len (.t 46),none⟩,
 ⟨some 48,.mv (.c (.d (.int .i64 0))),none⟩] [1,3,23,24,25,46,47,48])
 (.block 2 (.loop c_keep_Prog_L1))))))
 (.reg [⟨some 74,.bin .add (.t 25) (.c (.d (.int .i64 1))),none⟩,
 ⟨some 25,.mv (.t 74),none⟩] [1,3,23,24,25]))))
def c_keep_Prog_L3 : C := (.seq (.reg [⟨some 79,.bin .lss (.t 78) (.t 77),none⟩] [3,76,77,78,79])
 (.seq (.cond (.t 79) .skip
 (.exit 6))
 (.seq (.block 7 (.seq (.reg [⟨some 80,.ix (.t 76) (.t 78) 8,none⟩,
 ⟨some 81,.ld (.t 80) (some 8),none⟩,
 ⟨some 11,.al [(.d (.str [])),.nils,(.d (.int .i64 0)),(.d (.str [])),(.d (.int .i64 0)),.nils,.nils,.nils] false,none⟩,
 ⟨none,.st (.t 11) (.t 81) 8,none⟩] [3,11,76,77,78])
 (.seq (.reg [⟨some 82,.fld (.t 11) 0,none⟩,
 ⟨some 83,.ldl (.t 82) none,none⟩,
 ⟨some 84,.slen (.t 83),none⟩,
 ⟨some 85,.bin .gtr (.t 84) (.c (.d (.int .i64 40))),none⟩,
 ⟨some 86,.mv (.t 85),none⟩,
 ⟨some 87,.fld (.t 11) 1,some (86,false)⟩,
 ⟨some 88,.ldl (.t 87) none,some (86,false)⟩,
 ⟨some 89,.call 12 [(.t 88),(.c (.d (.int .i64 10)))],some (86,false)⟩,
 ⟨some 90,.un .not (.t 89),some (86,false)⟩,
 ⟨some 91,.pick (.t 86) (.c (.d (.bool true))) (.t 90),none⟩,
 ⟨some 92,.mv (.t 91),none⟩,
 ⟨some 93,.fld (.t 11) 2,some (92,false)⟩,
 ⟨some 94,.ldl (.t 93) (some 6),some (92,false)⟩,
 ⟨some 95,.call 14 [(.t 94),(.t 3)],some (92,false)⟩,
 ⟨some 96,.un .not (.t 95),some (92,false)⟩,
 ⟨some 97,.pick (.t 92) (.c (.d (.bool true))) (.t 96),none⟩] [3,76,77,78,97])
 (.cond (.t 97) (.seq (.reg [⟨some 2,.mv (.c (.d (.bool false))),none⟩] [2])
 .ret)
 .skip))))
 (.reg [⟨some 98,.bin .add (.t 78) (.c (.d (.int .i64 1))),none⟩,
 ⟨some 78,.mv (.t 98),none⟩] [3,76,77,78]))))
def c_keep_Prog : C := (.seq (.reg [⟨some 1,.box (.t 0) false,none⟩,
 ⟨some 2,.mv (.c (.d (.bool false))),none⟩] [1])
 (.seq (.seq (.reg [⟨some 12,.fld (.t 1) 0,none⟩,
 ⟨some 13,.ldl (.t 12) none,none⟩,
 ⟨some 14,.len (.t 13),none⟩,
 ⟨some 15,.bin .gtr (.t 14) (.c (.d (.int .i64 14))),none⟩,
 ⟨some 16,.mv (.t 15),none⟩,
 ⟨some 17,.fld (.t 1) 1,some (16,false)⟩,
 ⟨some 18,.ldl (.t 17) none,some (16,false)⟩,
 ⟨some 19,.len (.t 18),some (16,false)⟩,
 ⟨some 20,.bin .gtr (.t 19) (.c (.d (.int .i64 26))),some (16,false)⟩,
 ⟨some 21,.pick (.t 16) (.c (.d (.bool true))) (.t 20),none⟩] [1,21])
 (.cond (.t 21) (.seq (.reg [⟨some 2,.mv (.c (.d (.bool false))),none⟩] [2])
 .ret)
 .skip))
 (.seq (.reg [⟨some 3,.ex (.alt 3 [(.d (.int .i64 0))]) [],none⟩,
 ⟨none,.st (.t 3) (.c (.d (.int .i64 200))) 1,none⟩] [1,3])
 (.seq (.seq (.reg [⟨some 22,.fld (.t 1) 0,none⟩,
 ⟨some 23,.ldl (.t 22) none,none⟩,
 ⟨some 24,.len (.t 23),none⟩,
 ⟨some 25,.mv (.c (.d (.int .i64 0))),none⟩] [1,3,23,24,25])
 (.block 0 (.loop c_keep_Prog_L2)))
 (.seq (.seq (.reg [⟨some 75,.fld (.t 1) 1,none⟩,
 ⟨some 76,.ldl (.t 75) none,none⟩,
 ⟨some 77,.len (.t 76),none⟩,
 ⟨some 78,.mv (.c (.d (.int .i64 0))),none⟩] [3,76,77,78])
 (.block 6 (.loop c_keep_Prog_L3)))
 (.seq (.reg [⟨some 2,.mv (.c (.d (.bool true))),none⟩] [2])
 .ret))))))
noncomputable def x_keep_Prog : Cx := ⟨Try.prog,4,Try.f4,99,[3,300013,300018,300023,300030,300035,300041,300046,300053,300058,300063,300069,300076,300083,300088,300094],[],[.t 2]⟩
theorem g_keep_Prog : Good x_keep_Prog := ⟨Try.func4,by kernel_rfl⟩
theorem rs_keep_Prog : x_keep_Prog.rs = [.t 2] := rfl
theorem i_keep_Prog (hl : args.length ≤ 99) (h : Run x_keep_Prog K [.code c_keep_Prog] (argF args) E σ) : ACalls Try.prog 4 args σ K :=
  acalls_of (cx := x_keep_Prog) (code := Try.f4.body.getD .skip) g_keep_Prog (by kernel_rfl) Try.ntmps4 hl (compC_rc x_keep_Prog _ (ctOf c_keep_Prog) _ [] (by kernel_rfl)) h
def c_keep_Long_L0 : C := (.seq (.reg [⟨some 36,.bin .lss (.t 35) (.t 34),none⟩] [1,2,14,15,16,26,27,28,33,34,35,36])
 (.seq (.cond (.t 36) .skip
 (.exit 4))
 (.seq (.block 5 (.seq (.reg [⟨some 37,.ix (.t 33) (.t 35) 3,none⟩,
 ⟨some 38,.ld (.t 37) (some 3),none⟩,
 ⟨some 10,.al [(.d (.int .i64 0)),(.d (.str [])),.nils] false,none⟩,
 ⟨none,.st (.t 10) (.t 38) 3,none⟩] [1,2,10,14,15,16,26,27,28,33,34,35])
 (.seq (.reg [⟨some 39,.ldl (.t 10) (some 3),none⟩,
 ⟨some 40,.call 20 [(.t 39)],none⟩,
 ⟨some 41,.mv (.t 1),none⟩,
 ⟨some 42,.bin .gtr (.t 40) (.t 41),none⟩] [1,2,14,15,16,26,27,28,33,34,35,42])
 (.cond (.t 42) (.seq (.reg [⟨some 4,.mv (.c (.d (.bool true))),none⟩] [4])
 .ret)
 .skip))))
 (.reg [⟨some 43,.bin .add (.t 35) (.c (.d (.int .i64 1))),none⟩,
 ⟨some 35,.mv (.t 43),none⟩] [1,2,14,15,16,26,27,28,33,34,35]))))
def c_keep_Long_L1 : C := (.seq (.reg [⟨some 29,.bin .lss (.t 28) (.t 27),none⟩] [1,2,14,15,16,26,27,28,29])
 (.seq (.cond (.t 29) .skip
 (.exit 2))
 (.seq (.block 3 (.seq (.reg [⟨some 30,.ix (.t 26) (.t 28) 2,none⟩,
 ⟨some 31,.ld (.t 30) (some 2),none⟩,
 ⟨some 8,.al [(.d (.str [])),.nils] false,none⟩,
 ⟨none,.st (.t 8) (.t 31) 2,none⟩] [1,2,8,14,15,16,26,27,28])
 (.seq (.reg [⟨some 32,.fld (.t 8) 1,none⟩,
 ⟨some 33,.ldl (.t 32) none,none⟩,
 ⟨some 34,.len (.t 33),none⟩,
 ⟨some 35,.mv (.c (.d (.int .i64 0))),none⟩] [1,2,14,15,16,26,27,28,33,34,35])
 (.block 4 (.loop c_keep_Long_L0)))))
 (.reg [⟨some 44,.bin .add (.t 28) (.c (.d (.int .i64 1))),none⟩,
 ⟨some 28,.mv (.t 44),none⟩] [1,2,14,15,16,26,27,28]))))
def c_keep_Long_L2 : C := (.seq (.reg [⟨some 17,.bin .lss (.t 16) (.t 15),none⟩] [1,2,14,15,16,17])
 (.seq (.cond (.t 17) .skip
 (.exit 0))
 (.seq (.block 1 (.seq (.reg [⟨some 18,.ix (.t 14) (.t 16) 3,none⟩,
 ⟨some 19,.ld (.t 18) (some 3),none⟩,
 ⟨some 6,.al [(.d (.str [])),.nils,.nils] false,none⟩,
 ⟨none,.st (.t 6) (.t 19) 3,none⟩] [1,2,6,14,15,16])
 (.seq (.seq (.reg [⟨some 20,.fld (.t 6) 1,none⟩,
 ⟨some 21,.ldl (.t 20) none,none⟩,
 ⟨some 22,.call 19 [(.t 21)],none⟩,
 ⟨some 23,.mv (.t 1),none⟩,
 ⟨some 24,.bin .gtr (.t 22) (.t 23),none⟩] [1,2,6,14,15,16,24])
 (.cond (.t 24) (.seq (.reg [⟨some 4,.mv (.c (.d (.bool true))),none⟩] [4])
 .ret)
 .skip))
 (.seq (.reg [⟨some 25,.fld (.t 6) 2,none⟩,
 ⟨some 26,.ldl (.t 25) none,none⟩,
 ⟨some 27,.len (.t 26),none⟩,
 ⟨some 28,.mv (.c (.d (.int .i64 0))),none⟩] [1,2,14,15,16,26,27,28])
 (.block 2 (.loop c_keep_Long_L1))))))
 (.reg [⟨some 45,.bin .add (.t 16) (.c (.d (.int .i64 1))),none⟩,
 ⟨some 16,.mv (.t 45),none⟩] [1,2,14,15,16]))))
def c_keep_Long_L3 : C := (.seq (.reg [⟨some 50,.bin .lss (.t 49) (.t 48),none⟩] [1,47,48,49,50])
 (.seq (.cond (.t 50) .skip
 (.exit 6))
 (.seq (.block 7 (.seq (.reg [⟨some 51,.ix (.t 47) (.t 49) 8,none⟩,
 ⟨some 52,.ld (.t 51) (some 8),none⟩,
 ⟨some 12,.al [(.d (.str [])),.nils,(.d (.int .i64 0)),(.d (.str [])),(.d (.int .i64 0)),.nils,.nils,.nils] false,none⟩,
 ⟨none,.st (.t 12) (.t 52) 8,none⟩] [1,12,47,48,49])
 (.seq (.reg [⟨some 53,.fld (.t 12) 0,none⟩,
 ⟨some 54,.ldl (.t 53) none,none⟩,
 ⟨some 55,.slen (.t 54),none⟩,
 ⟨some 56,.mv (.t 1),none⟩,
 ⟨some 57,.bin .gtr (.t 55) (.t 56),none⟩,
 ⟨some 58,.mv (.t 57),none⟩,
 ⟨some 59,.fld (.t 12) 1,some (58,false)⟩,
 ⟨some 60,.ldl (.t 59) none,some (58,false)⟩,
 ⟨some 61,.call 19 [(.t 60)],some (58,false)⟩,
 ⟨some 62,.mv (.t 1),some (58,false)⟩,
 ⟨some 63,.bin .gtr (.t 61) (.t 62),some (58,false)⟩,
 ⟨some 64,.pick (.t 58) (.c (.d (.bool true))) (.t 63),none⟩,
 ⟨some 65,.mv (.t 64),none⟩,
 ⟨some 66,.fld (.t 12) 2,some (65,false)⟩,
 ⟨some 67,.ldl (.t 66) (some 6),some (65,false)⟩,
 ⟨some 68,.call 21 [(.t 67)],some (65,false)⟩,
 ⟨some 69,.mv (.t 1),some (65,false)⟩,
 ⟨some 70,.bin .gtr (.t 68) (.t 69),some (65,false)⟩,
 ⟨some 71,.pick (.t 65) (.c (.d (.bool true))) (.t 70),none⟩] [1,47,48,49,71])
 (.cond (.t 71) (.seq (.reg [⟨some 4,.mv (.c (.d (.bool true))),none⟩] [4])
 .ret)
 .skip))))
 (.reg [⟨some 72,.bin .add (.t 49) (.c (.d (.int .i64 1))),none⟩,
 ⟨some 49,.mv (.t 72),none⟩] [1,47,48,49]))))
def c_keep_Long : C := (.seq (.reg [⟨some 2,.box (.t 0) false,none⟩,
 ⟨some 4,.mv (.c (.d (.bool false))),none⟩] [1,2])
 (.seq (.seq (.reg [⟨some 13,.fld (.t 2) 0,none⟩,
 ⟨some 14,.ldl (.t 13) none,none⟩,
 ⟨some 15,.len (.t 14),none⟩,
 ⟨some 16,.mv (.c (.d (.int .i64 0))),none⟩] [1,2,14,15,16])
 (.block 0 (.loop c_keep_Long_L2)))
 (.seq (.seq (.reg [⟨some 46,.fld (.t 2) 1,none⟩,
 ⟨some 47,.ldl (.t 46) none,none⟩,
 ⟨some 48,.len (.t 47),none⟩,
 ⟨some 49,.mv (.c (.d (.int .i64 0))),none⟩] [1,47,48,49])
 (.block 6 (.loop c_keep_Long_L3)))
 (.seq (.reg [⟨some 4,.mv (.c (.d (.bool false))),none⟩] [4])
 .ret))))
noncomputable def x_keep_Long : Cx := ⟨Try.prog,6,Try.f6,73,[300014,300021,300026,300033,300039,300047,300054,300060,300067],[],[.t 4]⟩
theorem g_keep_Long : Good x_keep_Long := ⟨Try.func6,by kernel_rfl⟩
theorem rs_keep_Long : x_keep_Long.rs = [.t 4] := rfl
theorem i_keep_Long (hl : args.length ≤ 73) (h : Run x_keep_Long K [.code c_keep_Long] (argF args) E σ) : ACalls Try.prog 6 args σ K :=
  acalls_of (cx := x_keep_Long) (code := Try.f6.body.getD .skip) g_keep_Long (by kernel_rfl) Try.ntmps6 hl (compC_rc x_keep_Long _ (ctOf c_keep_Long) _ [] (by kernel_rfl)) h
def c_keep_Renamed_L0 : C := (.seq (.reg [⟨some 44,.bin .lss (.t 43) (.t 42),none⟩] [1,2,4,5,8,11,17,18,19,31,32,33,41,42,43,44])
 (.seq (.cond (.t 44) .skip
 (.exit 4))
 (.seq (.block 5 (.seq (.reg [⟨some 45,.ix (.t 41) (.t 43) 3,none⟩,
 ⟨some 46,.ld (.t 45) (some 3),none⟩,
 ⟨some 13,.al [(.d (.int .i64 0)),(.d (.str [])),.nils] false,none⟩,
 ⟨none,.st (.t 13) (.t 46) 3,none⟩] [1,2,4,5,8,11,13,17,18,19,31,32,33,41,42,43])
 (.reg [⟨some 47,.fld (.t 11) 1,none⟩,
 ⟨some 48,.ldl (.t 47) none,none⟩,
 ⟨some 49,.ldl (.t 13) (some 3),none⟩,
 ⟨some 50,.mv (.t 1),none⟩,
 ⟨some 51,.call 23 [(.t 49),(.t 50)],none⟩,
 ⟨some 52,.bsl 3 1 [(.d (.int .i64 0)),(.d (.str [])),.nils] [(0,3,(.t 51))],none⟩,
 ⟨some 53,.app 46 3 48 (.t 48) (.t 52),none⟩,
 ⟨some 54,.fld (.t 11) 1,none⟩,
 ⟨none,.st (.t 54) (.t 53) 1,none⟩] [1,2,4,5,8,11,17,18,19,31,32,33,41,42,43])))
 (.reg [⟨some 55,.bin .add (.t 43) (.c (.d (.int .i64 1))),none⟩,
 ⟨some 43,.mv (.t 55),none⟩] [1,2,4,5,8,11,17,18,19,31,32,33,41,42,43]))))
def c_keep_Renamed_L1 : C := (.seq (.reg [⟨some 34,.bin .lss (.t 33) (.t 32),none⟩] [1,2,4,5,8,17,18,19,31,32,33,34])
 (.seq (.cond (.t 34) .skip
 (.exit 2))
 (.seq (.block 3 (.seq (.reg [⟨some 35,.ix (.t 31) (.t 33) 2,none⟩,
 ⟨some 36,.ld (.t 35) (some 2),none⟩,
 ⟨some 10,.al [(.d (.str [])),.nils] false,none⟩,
 ⟨none,.st (.t 10) (.t 36) 2,none⟩] [1,2,4,5,8,10,17,18,19,31,32,33])
 (.seq (.reg [⟨some 37,.fld (.t 10) 0,none⟩,
 ⟨some 38,.ldl (.t 37) none,none⟩,
 ⟨some 39,.bld [(.d (.str [])),.nils] [(0,1,(.t 38))],none⟩,
 ⟨some 11,.al [(.d (.str [])),.nils] false,none⟩,
 ⟨none,.st (.t 11) (.t 39) 2,none⟩] [1,2,4,5,8,10,11,17,18,19,31,32,33])
 (.seq (.seq (.reg [⟨some 40,.fld (.t 10) 1,none⟩,
 ⟨some 41,.ldl (.t 40) none,none⟩,
 ⟨some 42,.len (.t 41),none⟩,
 ⟨some 43,.mv (.c (.d (.int .i64 0))),none⟩] [1,2,4,5,8,11,17,18,19,31,32,33,41,42,43])
 (.block 4 (.loop c_keep_Renamed_L0)))
 (.reg [⟨some 56,.fld (.t 8) 2,none⟩,
 ⟨some 57,.ldl (.t 56) none,none⟩,
 ⟨some 58,.ldl (.t 11) (some 2),none⟩,
 ⟨some 59,.bsl 2 1 [(.d (.str [])),.nils] [(0,2,(.t 58))],none⟩,
 ⟨some 60,.app 44 2 40 (.t 57) (.t 59),none⟩,
 ⟨some 61,.fld (.t 8) 2,none⟩,
 ⟨none,.st (.t 61) (.t 60) 1,none⟩] [1,2,4,5,8,17,18,19,31,32,33])))))
 (.reg [⟨some 62,.bin .add (.t 33) (.c (.d (.int .i64 1))),none⟩,
 ⟨some 33,.mv (.t 62),none⟩] [1,2,4,5,8,17,18,19,31,32,33]))))
def c_keep_Renamed_L2 : C := (.seq (.reg [⟨some 20,.bin .lss (.t 19) (.t 18),none⟩] [1,2,4,5,17,18,19,20])
 (.seq (.cond (.t 20) .skip
 (.exit 0))
 (.seq (.block 1 (.seq (.reg [⟨some 21,.ix (.t 17) (.t 19) 3,none⟩,
 ⟨some 22,.ld (.t 21) (some 3),none⟩,
 ⟨some 7,.al [(.d (.str [])),.nils,.nils] false,none⟩,
 ⟨none,.st (.t 7) (.t 22) 3,none⟩] [1,2,4,5,7,17,18,19])
 (.seq (.reg [⟨some 8,.al [(.d (.str [])),.nils,.nils] false,none⟩,
 ⟨some 23,.fld (.t 7) 0,none⟩,
 ⟨some 24,.ldl (.t 23) none,none⟩,
 ⟨some 25,.fld (.t 7) 1,none⟩,
 ⟨some 26,.ldl (.t 25) none,none⟩,
 ⟨some 27,.mv (.t 1),none⟩,
 ⟨some 28,.call 22 [(.t 26),(.t 27)],none⟩,
 ⟨some 29,.bld [(.d (.str [])),.nils,.nils] [(0,1,(.t 24)),(1,1,(.t 28))],none⟩,
 ⟨none,.st (.t 8) (.t 29) 3,none⟩] [1,2,4,5,7,8,17,18,19])
 (.seq (.seq (.reg [⟨some 30,.fld (.t 7) 2,none⟩,
 ⟨some 31,.ldl (.t 30) none,none⟩,
 ⟨some 32,.len (.t 31),none⟩,
 ⟨some 33,.mv (.c (.d (.int .i64 0))),none⟩] [1,2,4,5,8,17,18,19,31,32,33])
 (.block 2 (.loop c_keep_Renamed_L1)))
 (.reg [⟨some 63,.fld (.t 5) 0,none⟩,
 ⟨some 64,.ldl (.t 63) none,none⟩,
 ⟨some 65,.ldl (.t 8) (some 3),none⟩,
 ⟨some 66,.bsl 3 1 [(.d (.str [])),.nils,.nils] [(0,3,(.t 65))],none⟩,
 ⟨some 67,.app 40 3 64 (.t 64) (.t 66),none⟩,
 ⟨some 68,.fld (.t 5) 0,none⟩,
 ⟨none,.st (.t 68) (.t 67) 1,none⟩] [1,2,4,5,17,18,19])))))
 (.reg [⟨some 69,.bin .add (.t 19) (.c (.d (.int .i64 1))),none⟩,
 ⟨some 19,.mv (.t 69),none⟩] [1,2,4,5,17,18,19]))))
def c_keep_Renamed_L3 : C := (.seq (.reg [⟨some 74,.bin .lss (.t 73) (.t 72),none⟩] [1,4,5,71,72,73,74])
 (.seq (.cond (.t 74) .skip
 (.exit 6))
 (.seq (.block 7 (.seq (.reg [⟨some 75,.ix (.t 71) (.t 73) 8,none⟩,
 ⟨some 76,.ld (.t 75) (some 8),none⟩,
 ⟨some 15,.al [(.d (.str [])),.nils,(.d (.int .i64 0)),(.d (.str [])),(.d (.int .i64 0)),.nils,.nils,.nils] false,none⟩,
 ⟨none,.st (.t 15) (.t 76) 8,none⟩] [1,4,5,15,71,72,73])
 (.reg [⟨some 77,.fld (.t 5) 1,none⟩,
 ⟨some 78,.ldl (.t 77) none,none⟩,
 ⟨some 79,.fld (.t 15) 0,none⟩,
 ⟨some 80,.ldl (.t 79) none,none⟩,
 ⟨some 81,.mv (.t 1),none⟩,
 ⟨some 82,.bin .add (.t 80) (.t 81),none⟩,
 ⟨some 83,.fld (.t 15) 1,none⟩,
 ⟨some 84,.ldl (.t 83) none,none⟩,
 ⟨some 85,.mv (.t 1),none⟩,
 ⟨some 87,.fld (.t 15) 2,none⟩,
 ⟨some 88,.ldl (.t 87) (some 6),none⟩,
 ⟨some 89,.mv (.t 1),none⟩,
 ⟨some 86,.call 22 [(.t 84),(.t 85)],none⟩,
 ⟨some 90,.call 24 [(.t 88),(.t 89)],none⟩,
 ⟨some 91,.bld [(.d (.str [])),.nils,(.d (.int .i64 0)),(.d (.str [])),(.d (.int .i64 0)),.nils,.nils,.nils] [(0,1,(.t 82)),(1,1,(.t 86)),(2,6,(.t 90))],none⟩,
 ⟨some 92,.bsl 8 1 [(.d (.str [])),.nils,(.d (.int .i64 0)),(.d (.str [])),(.d (.int .i64 0)),.nils,.nils,.nils] [(0,8,(.t 91))],none⟩,
 ⟨some 93,.app 54 8 144 (.t 78) (.t 92),none⟩,
 ⟨some 94,.fld (.t 5) 1,none⟩,
 ⟨none,.st (.t 94) (.t 93) 1,none⟩] [1,4,5,71,72,73])))
 (.reg [⟨some 95,.bin .add (.t 73) (.c (.d (.int .i64 1))),none⟩,
 ⟨some 73,.mv (.t 95),none⟩] [1,4,5,71,72,73]))))
def c_keep_Renamed : C := (.seq (.reg [⟨some 2,.box (.t 0) false,none⟩,
 ⟨some 4,.al [.nils,.nils] false,none⟩] [1,2,4])
 (.seq (.reg [⟨some 5,.al [.nils,.nils] false,none⟩] [1,2,4,5])
 (.seq (.seq (.reg [⟨some 16,.fld (.t 2) 0,none⟩,
 ⟨some 17,.ldl (.t 16) none,none⟩,
 ⟨some 18,.len (.t 17),none⟩,
 ⟨some 19,.mv (.c (.d (.int .i64 0))),none⟩] [1,2,4,5,17,18,19])
 (.block 0 (.loop c_keep_Renamed_L2)))
 (.seq (.seq (.reg [⟨some 70,.fld (.t 2) 1,none⟩,
 ⟨some 71,.ldl (.t 70) none,none⟩,
 ⟨some 72,.len (.t 71),none⟩,
 ⟨some 73,.mv (.c (.d (.int .i64 0))),none⟩] [1,4,5,71,72,73])
 (.block 6 (.loop c_keep_Renamed_L3)))
 (.seq (.reg [⟨some 96,.ldl (.t 5) (some 2),none⟩,
 ⟨none,.st (.t 4) (.t 96) 2,none⟩] [4])
 .ret)))))
def t_keep_Renamed : List (List Nat × PT) := [([1,2,4],.done),([1,2,4,5],.done),([1,2,4,5,17,18,19],.done),([1,2,4,5,17,18,19,20],.done),([1,2,4,5,7,17,18,19],.done),([1,2,4,5,7,8,17,18,19],(.lay 7 (.one 0 (.one 1 (.one 2 (.one 3 (.one 4 (.one 5 (.one 6 (.one 8 .done)))))))))),([1,2,4,5,8,17,18,19,31,32,33],.done),([1,2,4,5,8,17,18,19,31,32,33,34],.done),([1,2,4,5,8,10,17,18,19,31,32,33],.done),([1,2,4,5,8,10,11,17,18,19,31,32,33],.done),([1,2,4,5,8,11,17,18,19,31,32,33,41,42,43],.done),([1,2,4,5,8,11,17,18,19,31,32,33,41,42,43,44],.done),([1,2,4,5,8,11,13,17,18,19,31,32,33,41,42,43],.done),([1,2,4,5,8,11,17,18,19,31,32,33,41,42,43],.done),([1,2,4,5,8,11,17,18,19,31,32,33,41,42,43],.done),([1,2,4,5,8,17,18,19,31,32,33],.done),([1,2,4,5,8,17,18,19,31,32,33],.done),([1,2,4,5,17,18,19],.done),([1,2,4,5,17,18,19],.done),([1,4,5,71,72,73],.done),([1,4,5,71,72,73,74],.done),([1,4,5,15,71,72,73],.done),([1,4,5,71,72,73],(.one 0 (.one 1 (.one 2 (.one 3 (.one 4 (.one 5 (.one 6 (.one 7 (.one 8 (.one 10 (.one 11 (.one 12 (.one 9 (.one 13 (.one 14 (.one 15 (.one 16 (.one 17 (.one 18 .done)))))))))))))))))))),([1,4,5,71,72,73],.done),([4],.done)]
noncomputable def x_keep_Renamed : Cx := ⟨Try.prog,7,Try.f7,97,[300017,300024,300026,300031,300038,300041,300048,300049,300057,300058,300064,300065,300071,300078,300080,300084,300088,300096],[],[.c 4 (some 2)]⟩
theorem g_keep_Renamed : Good x_keep_Renamed := ⟨Try.func7,by kernel_rfl⟩
theorem rs_keep_Renamed : x_keep_Renamed.rs = [.c 4 (some 2)] := rfl
theorem i_keep_Renamed (hl : args.length ≤ 97) (h : Run x_keep_Renamed K [.code c_keep_Renamed] (argF args) E σ) : ACalls Try.prog 7 args σ K :=
  acalls_of (cx := x_keep_Renamed) (code := Try.f7.body.getD .skip) g_keep_Renamed (by kernel_rfl) Try.ntmps7 hl (compC_rc x_keep_Renamed _ t_keep_Renamed _ [] (by kernel_rfl)) h
def c_keep_SameRows_L0 : C := (.seq (.reg [⟨some 14,.bin .lss (.t 13) (.t 12),none⟩] [0,1,12,13,14])
 (.seq (.cond (.t 14) .skip
 (.exit 0))
 (.seq (.block 1 (.seq (.reg [⟨some 15,.mv (.t 13),none⟩,
 ⟨some 5,.mv (.t 15),none⟩] [0,1,5,12,13])
 (.seq (.reg [⟨some 16,.mv (.t 0),none⟩,
 ⟨some 17,.mv (.t 5),none⟩,
 ⟨some 18,.ix (.t 16) (.t 17) 1,none⟩,
 ⟨some 19,.ld (.t 18) none,none⟩,
 ⟨some 20,.mv (.t 1),none⟩,
 ⟨some 21,.mv (.t 5),none⟩,
 ⟨some 22,.ix (.t 20) (.t 21) 1,none⟩,
 ⟨some 23,.ld (.t 22) none,none⟩,
 ⟨some 24,.call 30 [(.t 19),(.t 23)],none⟩,
 ⟨some 25,.un .not (.t 24),none⟩] [0,1,12,13,25])
 (.cond (.t 25) (.seq (.reg [⟨some 4,.mv (.c (.d (.bool false))),none⟩] [4])
 .ret)
 .skip))))
 (.reg [⟨some 26,.bin .add (.t 13) (.c (.d (.int .i64 1))),none⟩,
 ⟨some 13,.mv (.t 26),none⟩] [0,1,12,13]))))
def c_keep_SameRows : C := (.seq (.reg [⟨some 4,.mv (.c (.d (.bool false))),none⟩] [0,1])
 (.seq (.seq (.reg [⟨some 6,.mv (.t 0),none⟩,
 ⟨some 7,.len (.t 6),none⟩,
 ⟨some 8,.mv (.t 1),none⟩,
 ⟨some 9,.len (.t 8),none⟩,
 ⟨some 10,.bin .neq (.t 7) (.t 9),none⟩] [0,1,10])
 (.cond (.t 10) (.seq (.reg [⟨some 4,.mv (.c (.d (.bool false))),none⟩] [4])
 .ret)
 .skip))
 (.seq (.seq (.reg [⟨some 11,.mv (.t 0),none⟩,
 ⟨some 12,.len (.t 11),none⟩,
 ⟨some 13,.mv (.c (.d (.int .i64 0))),none⟩] [0,1,12,13])
 (.block 0 (.loop c_keep_SameRows_L0)))
 (.seq (.reg [⟨some 4,.mv (.c (.d (.bool true))),none⟩] [4])
 .ret))))
noncomputable def x_keep_SameRows : Cx := ⟨Try.prog,9,Try.f9,27,[],[],[.t 4]⟩
theorem g_keep_SameRows : Good x_keep_SameRows := ⟨Try.func9,by kernel_rfl⟩
theorem rs_keep_SameRows : x_keep_SameRows.rs = [.t 4] := rfl
theorem i_keep_SameRows (hl : args.length ≤ 27) (h : Run x_keep_SameRows K [.code c_keep_SameRows] (argF args) E σ) : ACalls Try.prog 9 args σ K :=
  acalls_of (cx := x_keep_SameRows) (code := Try.f9.body.getD .skip) g_keep_SameRows (by kernel_rfl) Try.ntmps9 hl (compC_rc x_keep_SameRows _ (ctOf c_keep_SameRows) _ [] (by kernel_rfl)) h
def c_keep_Names_L0 : C := (.seq (.seq (.reg [⟨some 6,.mv (.t 5),none⟩,
 ⟨some 7,.mv (.t 0),none⟩,
 ⟨some 8,.len (.t 7),none⟩,
 ⟨some 9,.bin .lss (.t 6) (.t 8),none⟩,
 ⟨some 10,.mv (.t 9),none⟩,
 ⟨some 11,.mv (.t 5),some (10,true)⟩,
 ⟨some 12,.mv (.t 1),some (10,true)⟩,
 ⟨some 13,.bin .leq (.t 11) (.t 12),some (10,true)⟩,
 ⟨some 14,.pick (.t 10) (.t 13) (.c (.d (.bool false))),none⟩] [0,1,5,14])
 (.cond (.t 14) .skip
 (.exit 0)))
 (.seq (.block 1 (.seq (.reg [⟨some 17,.mv (.t 0),none⟩,
 ⟨some 18,.mv (.t 5),none⟩,
 ⟨some 19,.ix (.t 17) (.t 18) 1,none⟩,
 ⟨some 20,.ld (.t 19) none,none⟩,
 ⟨some 21,.slen (.t 20),none⟩,
 ⟨some 22,.bin .gtr (.t 21) (.c (.d (.int .i64 40))),none⟩] [0,1,5,22])
 (.cond (.t 22) (.seq (.reg [⟨some 4,.mv (.c (.d (.bool false))),none⟩] [4])
 .ret)
 .skip)))
 (.reg [⟨some 15,.mv (.t 5),none⟩,
 ⟨some 16,.bin .add (.t 15) (.c (.d (.int .i64 1))),none⟩,
 ⟨some 5,.mv (.t 16),none⟩] [0,1,5])))
def c_keep_Names : C := (.seq (.reg [⟨some 4,.mv (.c (.d (.bool false))),none⟩] [0,1])
 (.seq (.seq (.reg [⟨some 5,.mv (.c (.d (.int .i64 0))),none⟩] [0,1,5])
 (.block 0 (.loop c_keep_Names_L0)))
 (.seq (.reg [⟨some 23,.mv (.t 0),none⟩,
 ⟨some 24,.len (.t 23),none⟩,
 ⟨some 25,.mv (.t 1),none⟩,
 ⟨some 26,.bin .leq (.t 24) (.t 25),none⟩,
 ⟨some 4,.mv (.t 26),none⟩] [4])
 .ret)))
noncomputable def x_keep_Names : Cx := ⟨Try.prog,12,Try.f12,27,[],[],[.t 4]⟩
theorem g_keep_Names : Good x_keep_Names := ⟨Try.func12,by kernel_rfl⟩
theorem rs_keep_Names : x_keep_Names.rs = [.t 4] := rfl
theorem i_keep_Names (hl : args.length ≤ 27) (h : Run x_keep_Names K [.code c_keep_Names] (argF args) E σ) : ACalls Try.prog 12 args σ K :=
  acalls_of (cx := x_keep_Names) (code := Try.f12.body.getD .skip) g_keep_Names (by kernel_rfl) Try.ntmps12 hl (compC_rc x_keep_Names _ (ctOf c_keep_Names) _ [] (by kernel_rfl)) h
def c_keep_written_L0 : C := (.seq (.seq (.reg [⟨some 21,.mv (.t 5),none⟩,
 ⟨some 22,.fld (.t 2) 2,none⟩,
 ⟨some 23,.ldl (.t 22) none,none⟩,
 ⟨some 24,.len (.t 23),none⟩,
 ⟨some 25,.bin .lss (.t 21) (.t 24),none⟩] [1,2,5,25])
 (.cond (.t 25) .skip
 (.exit 0)))
 (.seq (.block 1 (.seq (.reg [⟨some 28,.fld (.t 2) 2,none⟩,
 ⟨some 29,.ldl (.t 28) none,none⟩,
 ⟨some 30,.mv (.t 5),none⟩,
 ⟨some 31,.ix (.t 29) (.t 30) 3,none⟩,
 ⟨some 32,.ld (.t 31) (some 3),none⟩,
 ⟨some 33,.mv (.t 1),none⟩,
 ⟨some 34,.call 13 [(.t 32),(.t 33)],none⟩,
 ⟨some 35,.un .not (.t 34),none⟩] [1,2,5,35])
 (.cond (.t 35) (.seq (.reg [⟨some 4,.mv (.c (.d (.bool false))),none⟩] [4])
 .ret)
 .skip)))
 (.reg [⟨some 26,.mv (.t 5),none⟩,
 ⟨some 27,.bin .add (.t 26) (.c (.d (.int .i64 1))),none⟩,
 ⟨some 5,.mv (.t 27),none⟩] [1,2,5])))
def c_keep_written : C := (.seq (.reg [⟨some 2,.box (.t 0) false,none⟩,
 ⟨some 4,.mv (.c (.d (.bool false))),none⟩] [1,2])
 (.seq (.reg [⟨some 6,.mv (.t 1),none⟩,
 ⟨some 7,.nck (.t 6),none⟩,
 ⟨some 8,.ld (.t 7) none,none⟩,
 ⟨some 9,.bin .sub (.t 8) (.c (.d (.int .i64 1))),none⟩,
 ⟨some 10,.nck (.t 6),none⟩,
 ⟨none,.st (.t 10) (.t 9) 1,none⟩] [1,2])
 (.seq (.seq (.reg [⟨some 11,.mv (.t 1),none⟩,
 ⟨some 12,.nck (.t 11),none⟩,
 ⟨some 13,.ld (.t 12) none,none⟩,
 ⟨some 14,.bin .lss (.t 13) (.c (.d (.int .i64 0))),none⟩,
 ⟨some 15,.mv (.t 14),none⟩,
 ⟨some 16,.fld (.t 2) 1,some (15,false)⟩,
 ⟨some 17,.ldl (.t 16) none,some (15,false)⟩,
 ⟨some 18,.slen (.t 17),some (15,false)⟩,
 ⟨some 19,.bin .gtr (.t 18) (.c (.d (.int .i64 40))),some (15,false)⟩,
 ⟨some 20,.pick (.t 15) (.c (.d (.bool true))) (.t 19),none⟩] [1,2,20])
 (.cond (.t 20) (.seq (.reg [⟨some 4,.mv (.c (.d (.bool false))),none⟩] [4])
 .ret)
 .skip))
 (.seq (.seq (.reg [⟨some 5,.mv (.c (.d (.int .i64 0))),none⟩] [1,2,5])
 (.block 0 (.loop c_keep_written_L0)))
 (.seq (.reg [⟨some 4,.mv (.c (.d (.bool true))),none⟩] [4])
 .ret)))))
noncomputable def x_keep_written : Cx := ⟨Try.prog,13,Try.f13,36,[300017,300023,300029],[],[.t 4]⟩
theorem g_keep_written : Good x_keep_written := ⟨Try.func13,by kernel_rfl⟩
theorem rs_keep_written : x_keep_written.rs = [.t 4] := rfl
theorem i_keep_written (hl : args.length ≤ 36) (h : Run x_keep_written K [.code c_keep_written] (argF args) E σ) : ACalls Try.prog 13 args σ K :=
  acalls_of (cx := x_keep_written) (code := Try.f13.body.getD .skip) g_keep_written (by kernel_rfl) Try.ntmps13 hl (compC_rc x_keep_written _ (ctOf c_keep_written) _ [] (by kernel_rfl)) h
def c_keep_expr_L0 : C := (.seq (.seq (.reg [⟨some 40,.mv (.t 5),none⟩,
 ⟨some 41,.fld (.t 2) 4,none⟩,
 ⟨some 42,.ldl (.t 41) none,none⟩,
 ⟨some 43,.len (.t 42),none⟩,
 ⟨some 44,.bin .lss (.t 40) (.t 43),none⟩] [1,2,5,44])
 (.cond (.t 44) .skip
 (.exit 0)))
 (.seq (.block 1 (.seq (.reg [⟨some 47,.fld (.t 2) 4,none⟩,
 ⟨some 48,.ldl (.t 47) none,none⟩,
 ⟨some 49,.mv (.t 5),none⟩,
 ⟨some 50,.ix (.t 48) (.t 49) 6,none⟩,
 ⟨some 51,.ld (.t 50) (some 6),none⟩,
 ⟨some 52,.mv (.t 1),none⟩,
 ⟨some 53,.call 14 [(.t 51),(.t 52)],none⟩,
 ⟨some 54,.un .not (.t 53),none⟩] [1,2,5,54])
 (.cond (.t 54) (.seq (.reg [⟨some 4,.mv (.c (.d (.bool false))),none⟩] [4])
 .ret)
 .skip)))
 (.reg [⟨some 45,.mv (.t 5),none⟩,
 ⟨some 46,.bin .add (.t 45) (.c (.d (.int .i64 1))),none⟩,
 ⟨some 5,.mv (.t 46),none⟩] [1,2,5])))
def c_keep_expr_L1 : C := (.seq (.seq (.reg [⟨some 55,.mv (.t 6),none⟩,
 ⟨some 56,.fld (.t 2) 5,none⟩,
 ⟨some 57,.ldl (.t 56) none,none⟩,
 ⟨some 58,.len (.t 57),none⟩,
 ⟨some 59,.bin .lss (.t 55) (.t 58),none⟩] [1,2,6,59])
 (.cond (.t 59) .skip
 (.exit 2)))
 (.seq (.block 3 (.seq (.reg [⟨some 62,.fld (.t 2) 5,none⟩,
 ⟨some 63,.ldl (.t 62) none,none⟩,
 ⟨some 64,.mv (.t 6),none⟩,
 ⟨some 65,.ix (.t 63) (.t 64) 8,none⟩,
 ⟨some 66,.fld (.t 65) 0,none⟩,
 ⟨some 67,.ld (.t 66) none,none⟩,
 ⟨some 68,.slen (.t 67),none⟩,
 ⟨some 69,.bin .gtr (.t 68) (.c (.d (.int .i64 40))),none⟩,
 ⟨some 70,.mv (.t 69),none⟩,
 ⟨some 71,.fld (.t 2) 5,some (70,false)⟩,
 ⟨some 72,.ldl (.t 71) none,some (70,false)⟩,
 ⟨some 73,.mv (.t 6),some (70,false)⟩,
 ⟨some 74,.ix (.t 72) (.t 73) 8,some (70,false)⟩,
 ⟨some 75,.fld (.t 74) 1,some (70,false)⟩,
 ⟨some 76,.ld (.t 75) none,some (70,false)⟩,
 ⟨some 77,.call 12 [(.t 76),(.c (.d (.int .i64 10)))],some (70,false)⟩,
 ⟨some 78,.un .not (.t 77),some (70,false)⟩,
 ⟨some 79,.pick (.t 70) (.c (.d (.bool true))) (.t 78),none⟩,
 ⟨some 80,.mv (.t 79),none⟩,
 ⟨some 81,.fld (.t 2) 5,some (80,false)⟩,
 ⟨some 82,.ldl (.t 81) none,some (80,false)⟩,
 ⟨some 83,.mv (.t 6),some (80,false)⟩,
 ⟨some 84,.ix (.t 82) (.t 83) 8,some (80,false)⟩,
 ⟨some 85,.fld (.t 84) 2,some (80,false)⟩,
 ⟨some 86,.ld (.t 85) (some 6),some (80,false)⟩,
 ⟨some 87,.mv (.t 1),some (80,false)⟩,
 ⟨some 88,.call 14 [(.t 86),(.t 87)],some (80,false)⟩,
 ⟨some 89,.un .not (.t 88),some (80,false)⟩,
 ⟨some 90,.pick (.t 80) (.c (.d (.bool true))) (.t 89),none⟩] [1,2,6,90])
 (.cond (.t 90) (.seq (.reg [⟨some 4,.mv (.c (.d (.bool false))),none⟩] [4])
 .ret)
 .skip)))
 (.reg [⟨some 60,.mv (.t 6),none⟩,
 ⟨some 61,.bin .add (.t 60) (.c (.d (.int .i64 1))),none⟩,
 ⟨some 6,.mv (.t 61),none⟩] [1,2,6])))
def c_keep_expr : C := (.seq (.reg [⟨some 2,.box (.t 0) false,none⟩,
 ⟨some 4,.mv (.c (.d (.bool false))),none⟩] [1,2])
 (.seq (.reg [⟨some 7,.mv (.t 1),none⟩,
 ⟨some 8,.nck (.t 7),none⟩,
 ⟨some 9,.ld (.t 8) none,none⟩,
 ⟨some 10,.bin .sub (.t 9) (.c (.d (.int .i64 1))),none⟩,
 ⟨some 11,.nck (.t 7),none⟩,
 ⟨none,.st (.t 11) (.t 10) 1,none⟩] [1,2])
 (.seq (.seq (.reg [⟨some 12,.mv (.t 1),none⟩,
 ⟨some 13,.nck (.t 12),none⟩,
 ⟨some 14,.ld (.t 13) none,none⟩,
 ⟨some 15,.bin .lss (.t 14) (.c (.d (.int .i64 0))),none⟩,
 ⟨some 16,.mv (.t 15),none⟩,
 ⟨some 17,.fld (.t 2) 1,some (16,false)⟩,
 ⟨some 18,.ldl (.t 17) none,some (16,false)⟩,
 ⟨some 19,.slen (.t 18),some (16,false)⟩,
 ⟨some 20,.bin .gtr (.t 19) (.c (.d (.int .i64 40))),some (16,false)⟩,
 ⟨some 21,.pick (.t 16) (.c (.d (.bool true))) (.t 20),none⟩,
 ⟨some 22,.mv (.t 21),none⟩,
 ⟨some 23,.fld (.t 2) 3,some (22,false)⟩,
 ⟨some 24,.ldl (.t 23) none,some (22,false)⟩,
 ⟨some 25,.call 12 [(.t 24),(.c (.d (.int .i64 10)))],some (22,false)⟩,
 ⟨some 26,.un .not (.t 25),some (22,false)⟩,
 ⟨some 27,.pick (.t 22) (.c (.d (.bool true))) (.t 26),none⟩,
 ⟨some 28,.mv (.t 27),none⟩,
 ⟨some 29,.fld (.t 2) 4,some (28,false)⟩,
 ⟨some 30,.ldl (.t 29) none,some (28,false)⟩,
 ⟨some 31,.len (.t 30),some (28,false)⟩,
 ⟨some 32,.bin .gtr (.t 31) (.c (.d (.int .i64 10))),some (28,false)⟩,
 ⟨some 33,.pick (.t 28) (.c (.d (.bool true))) (.t 32),none⟩,
 ⟨some 34,.mv (.t 33),none⟩,
 ⟨some 35,.fld (.t 2) 5,some (34,false)⟩,
 ⟨some 36,.ldl (.t 35) none,some (34,false)⟩,
 ⟨some 37,.len (.t 36),some (34,false)⟩,
 ⟨some 38,.bin .gtr (.t 37) (.c (.d (.int .i64 10))),some (34,false)⟩,
 ⟨some 39,.pick (.t 34) (.c (.d (.bool true))) (.t 38),none⟩] [1,2,39])
 (.cond (.t 39) (.seq (.reg [⟨some 4,.mv (.c (.d (.bool false))),none⟩] [4])
 .ret)
 .skip))
 (.seq (.seq (.reg [⟨some 5,.mv (.c (.d (.int .i64 0))),none⟩] [1,2,5])
 (.block 0 (.loop c_keep_expr_L0)))
 (.seq (.seq (.reg [⟨some 6,.mv (.c (.d (.int .i64 0))),none⟩] [1,2,6])
 (.block 2 (.loop c_keep_expr_L1)))
 (.seq (.reg [⟨some 4,.mv (.c (.d (.bool true))),none⟩] [4])
 .ret))))))
noncomputable def x_keep_expr : Cx := ⟨Try.prog,14,Try.f14,91,[300018,300024,300030,300036,300042,300048,300057,300063,300072,300082],[],[.t 4]⟩
theorem g_keep_expr : Good x_keep_expr := ⟨Try.func14,by kernel_rfl⟩
theorem rs_keep_expr : x_keep_expr.rs = [.t 4] := rfl
theorem i_keep_expr (hl : args.length ≤ 91) (h : Run x_keep_expr K [.code c_keep_expr] (argF args) E σ) : ACalls Try.prog 14 args σ K :=
  acalls_of (cx := x_keep_expr) (code := Try.f14.body.getD .skip) g_keep_expr (by kernel_rfl) Try.ntmps14 hl (compC_rc x_keep_expr _ (ctOf c_keep_expr) _ [] (by kernel_rfl)) h
def c_keep_longest_L0 : C := (.seq (.reg [⟨some 9,.bin .lss (.t 8) (.t 7),none⟩] [3,6,7,8,9])
 (.seq (.cond (.t 9) .skip
 (.exit 0))
 (.seq (.block 1 (.seq (.reg [⟨some 10,.ix (.t 6) (.t 8) 1,none⟩,
 ⟨some 11,.ld (.t 10) none,none⟩,
 ⟨some 5,.mv (.t 11),none⟩] [3,5,6,7,8])
 (.reg [⟨some 12,.mv (.t 3),none⟩,
 ⟨some 13,.mv (.t 5),none⟩,
 ⟨some 14,.slen (.t 13),none⟩,
 ⟨some 15,.mm true (.t 12) (.t 14),none⟩,
 ⟨some 3,.mv (.t 15),none⟩] [3,6,7,8])))
 (.reg [⟨some 16,.bin .add (.t 8) (.c (.d (.int .i64 1))),none⟩,
 ⟨some 8,.mv (.t 16),none⟩] [3,6,7,8]))))
def c_keep_longest : C := (.seq (.reg [⟨some 2,.mv (.c (.d (.int .i64 0))),none⟩] [0])
 (.seq (.reg [⟨some 3,.mv (.c (.d (.int .i64 0))),none⟩] [0,3])
 (.seq (.seq (.reg [⟨some 6,.mv (.t 0),none⟩,
 ⟨some 7,.len (.t 6),none⟩,
 ⟨some 8,.mv (.c (.d (.int .i64 0))),none⟩] [3,6,7,8])
 (.block 0 (.loop c_keep_longest_L0)))
 (.seq (.reg [⟨some 17,.mv (.t 3),none⟩,
 ⟨some 2,.mv (.t 17),none⟩] [2])
 .ret))))
noncomputable def x_keep_longest : Cx := ⟨Try.prog,19,Try.f19,18,[],[],[.t 2]⟩
theorem g_keep_longest : Good x_keep_longest := ⟨Try.func19,by kernel_rfl⟩
theorem rs_keep_longest : x_keep_longest.rs = [.t 2] := rfl
theorem i_keep_longest (hl : args.length ≤ 18) (h : Run x_keep_longest K [.code c_keep_longest] (argF args) E σ) : ACalls Try.prog 19 args σ K :=
  acalls_of (cx := x_keep_longest) (code := Try.f19.body.getD .skip) g_keep_longest (by kernel_rfl) Try.ntmps19 hl (compC_rc x_keep_longest _ (ctOf c_keep_longest) _ [] (by kernel_rfl)) h
def c_keep_longType_L0 : C := (.seq (.reg [⟨some 13,.bin .lss (.t 12) (.t 11),none⟩] [3,10,11,12,13])
 (.seq (.cond (.t 13) .skip
 (.exit 0))
 (.seq (.block 1 (.seq (.reg [⟨some 14,.ix (.t 10) (.t 12) 3,none⟩,
 ⟨some 15,.ld (.t 14) (some 3),none⟩,
 ⟨some 5,.al [(.d (.int .i64 0)),(.d (.str [])),.nils] false,none⟩,
 ⟨none,.st (.t 5) (.t 15) 3,none⟩] [3,5,10,11,12])
 (.reg [⟨some 16,.mv (.t 3),none⟩,
 ⟨some 17,.ldl (.t 5) (some 3),none⟩,
 ⟨some 18,.call 20 [(.t 17)],none⟩,
 ⟨some 19,.mm true (.t 16) (.t 18),none⟩,
 ⟨some 3,.mv (.t 19),none⟩] [3,10,11,12])))
 (.reg [⟨some 20,.bin .add (.t 12) (.c (.d (.int .i64 1))),none⟩,
 ⟨some 12,.mv (.t 20),none⟩] [3,10,11,12]))))
def c_keep_longType : C := (.seq (.reg [⟨some 1,.box (.t 0) false,none⟩,
 ⟨some 2,.mv (.c (.d (.int .i64 0))),none⟩] [1])
 (.seq (.reg [⟨some 6,.fld (.t 1) 1,none⟩,
 ⟨some 7,.ldl (.t 6) none,none⟩,
 ⟨some 8,.slen (.t 7),none⟩,
 ⟨some 3,.mv (.t 8),none⟩] [1,3])
 (.seq (.seq (.reg [⟨some 9,.fld (.t 1) 2,none⟩,
 ⟨some 10,.ldl (.t 9) none,none⟩,
 ⟨some 11,.len (.t 10),none⟩,
 ⟨some 12,.mv (.c (.d (.int .i64 0))),none⟩] [3,10,11,12])
 (.block 0 (.loop c_keep_longType_L0)))
 (.seq (.reg [⟨some 21,.mv (.t 3),none⟩,
 ⟨some 2,.mv (.t 21),none⟩] [2])
 .ret))))
noncomputable def x_keep_longType : Cx := ⟨Try.prog,20,Try.f20,22,[300007,300010,300017],[],[.t 2]⟩
theorem g_keep_longType : Good x_keep_longType := ⟨Try.func20,by kernel_rfl⟩
theorem rs_keep_longType : x_keep_longType.rs = [.t 2] := rfl
theorem i_keep_longType (hl : args.length ≤ 22) (h : Run x_keep_longType K [.code c_keep_longType] (argF args) E σ) : ACalls Try.prog 20 args σ K :=
  acalls_of (cx := x_keep_longType) (code := Try.f20.body.getD .skip) g_keep_longType (by kernel_rfl) Try.ntmps20 hl (compC_rc x_keep_longType _ (ctOf c_keep_longType) _ [] (by kernel_rfl)) h
def c_keep_long_L0 : C := (.seq (.reg [⟨some 19,.bin .lss (.t 18) (.t 17),none⟩] [1,3,16,17,18,19])
 (.seq (.cond (.t 19) .skip
 (.exit 0))
 (.seq (.block 1 (.seq (.reg [⟨some 20,.ix (.t 16) (.t 18) 6,none⟩,
 ⟨some 21,.ld (.t 20) (some 6),none⟩,
 ⟨some 5,.al [(.d (.int .i64 0)),(.d (.str [])),(.d (.int .i64 0)),.nils,.nils,.nils] false,none⟩,
 ⟨none,.st (.t 5) (.t 21) 6,none⟩] [1,3,5,16,17,18])
 (.reg [⟨some 22,.mv (.t 3),none⟩,
 ⟨some 23,.ldl (.t 5) (some 6),none⟩,
 ⟨some 24,.call 21 [(.t 23)],none⟩,
 ⟨some 25,.mm true (.t 22) (.t 24),none⟩,
 ⟨some 3,.mv (.t 25),none⟩] [1,3,16,17,18])))
 (.reg [⟨some 26,.bin .add (.t 18) (.c (.d (.int .i64 1))),none⟩,
 ⟨some 18,.mv (.t 26),none⟩] [1,3,16,17,18]))))
def c_keep_long_L1 : C := (.seq (.reg [⟨some 31,.bin .lss (.t 30) (.t 29),none⟩] [3,28,29,30,31])
 (.seq (.cond (.t 31) .skip
 (.exit 2))
 (.seq (.block 3 (.seq (.reg [⟨some 32,.ix (.t 28) (.t 30) 8,none⟩,
 ⟨some 33,.ld (.t 32) (some 8),none⟩,
 ⟨some 7,.al [(.d (.str [])),.nils,(.d (.int .i64 0)),(.d (.str [])),(.d (.int .i64 0)),.nils,.nils,.nils] false,none⟩,
 ⟨none,.st (.t 7) (.t 33) 8,none⟩] [3,7,28,29,30])
 (.reg [⟨some 34,.mv (.t 3),none⟩,
 ⟨some 35,.fld (.t 7) 1,none⟩,
 ⟨some 36,.ldl (.t 35) none,none⟩,
 ⟨some 38,.fld (.t 7) 2,none⟩,
 ⟨some 39,.ldl (.t 38) (some 6),none⟩,
 ⟨some 37,.call 19 [(.t 36)],none⟩,
 ⟨some 40,.call 21 [(.t 39)],none⟩,
 ⟨some 41,.mm3 true (.t 34) (.t 37) (.t 40),none⟩,
 ⟨some 3,.mv (.t 41),none⟩] [3,28,29,30])))
 (.reg [⟨some 42,.bin .add (.t 30) (.c (.d (.int .i64 1))),none⟩,
 ⟨some 30,.mv (.t 42),none⟩] [3,28,29,30]))))
def c_keep_long : C := (.seq (.reg [⟨some 1,.box (.t 0) false,none⟩,
 ⟨some 2,.mv (.c (.d (.int .i64 0))),none⟩] [1])
 (.seq (.reg [⟨some 8,.fld (.t 1) 1,none⟩,
 ⟨some 9,.ldl (.t 8) none,none⟩,
 ⟨some 10,.slen (.t 9),none⟩,
 ⟨some 11,.fld (.t 1) 3,none⟩,
 ⟨some 12,.ldl (.t 11) none,none⟩,
 ⟨some 13,.call 19 [(.t 12)],none⟩,
 ⟨some 14,.mm true (.t 10) (.t 13),none⟩,
 ⟨some 3,.mv (.t 14),none⟩] [1,3])
 (.seq (.seq (.reg [⟨some 15,.fld (.t 1) 4,none⟩,
 ⟨some 16,.ldl (.t 15) none,none⟩,
 ⟨some 17,.len (.t 16),none⟩,
 ⟨some 18,.mv (.c (.d (.int .i64 0))),none⟩] [1,3,16,17,18])
 (.block 0 (.loop c_keep_long_L0)))
 (.seq (.seq (.reg [⟨some 27,.fld (.t 1) 5,none⟩,
 ⟨some 28,.ldl (.t 27) none,none⟩,
 ⟨some 29,.len (.t 28),none⟩,
 ⟨some 30,.mv (.c (.d (.int .i64 0))),none⟩] [3,28,29,30])
 (.block 2 (.loop c_keep_long_L1)))
 (.seq (.reg [⟨some 43,.mv (.t 3),none⟩,
 ⟨some 2,.mv (.t 43),none⟩] [2])
 .ret)))))
def t_keep_long : List (List Nat × PT) := [([1],.done),([1,3],.done),([1,3,16,17,18],.done),([1,3,16,17,18,19],.done),([1,3,5,16,17,18],.done),([1,3,16,17,18],.done),([1,3,16,17,18],.done),([3,28,29,30],.done),([3,28,29,30,31],.done),([3,7,28,29,30],.done),([3,28,29,30],(.one 0 (.one 1 (.one 2 (.one 4 (.one 5 (.one 3 (.one 6 (.one 7 (.one 8 .done)))))))))),([3,28,29,30],.done),([2],.done)]
noncomputable def x_keep_long : Cx := ⟨Try.prog,21,Try.f21,44,[300009,300012,300016,300023,300028,300036,300039],[],[.t 2]⟩
theorem g_keep_long : Good x_keep_long := ⟨Try.func21,by kernel_rfl⟩
theorem rs_keep_long : x_keep_long.rs = [.t 2] := rfl
theorem i_keep_long (hl : args.length ≤ 44) (h : Run x_keep_long K [.code c_keep_long] (argF args) E σ) : ACalls Try.prog 21 args σ K :=
  acalls_of (cx := x_keep_long) (code := Try.f21.body.getD .skip) g_keep_long (by kernel_rfl) Try.ntmps21 hl (compC_rc x_keep_long _ t_keep_long _ [] (by kernel_rfl)) h
def c_keep_suffixed_L0 : C := (.seq (.reg [⟨some 11,.bin .lss (.t 10) (.t 9),none⟩] [1,5,8,9,10,11])
 (.seq (.cond (.t 11) .skip
 (.exit 0))
 (.seq (.block 1 (.seq (.reg [⟨some 12,.ix (.t 8) (.t 10) 1,none⟩,
 ⟨some 13,.ld (.t 12) none,none⟩,
 ⟨some 7,.mv (.t 13),none⟩] [1,5,7,8,9,10])
 (.seq (.seq (.reg [⟨some 14,.mv (.t 7),none⟩,
 ⟨some 15,.bin .neq (.t 14) (.c (.d (.str []))),none⟩] [1,5,7,8,9,10,15])
 (.cond (.t 15) (.reg [⟨some 16,.mv (.t 7),none⟩,
 ⟨some 17,.mv (.t 1),none⟩,
 ⟨some 18,.bin .add (.t 16) (.t 17),none⟩,
 ⟨some 7,.mv (.t 18),none⟩] [1,5,7,8,9,10])
 .skip))
 (.reg [⟨some 19,.mv (.t 5),none⟩,
 ⟨some 20,.mv (.t 7),none⟩,
 ⟨some 21,.bsl 1 1 [(.d (.str []))] [(0,1,(.t 20))],none⟩,
 ⟨some 22,.app 9 1 16 (.t 19) (.t 21),none⟩,
 ⟨some 5,.mv (.t 22),none⟩] [1,5,8,9,10]))))
 (.reg [⟨some 23,.bin .add (.t 10) (.c (.d (.int .i64 1))),none⟩,
 ⟨some 10,.mv (.t 23),none⟩] [1,5,8,9,10]))))
def c_keep_suffixed : C := (.seq (.reg [⟨some 4,.mv (.c .nils),none⟩] [0,1])
 (.seq (.reg [⟨some 5,.mv (.c .nils),none⟩] [0,1,5])
 (.seq (.seq (.reg [⟨some 8,.mv (.t 0),none⟩,
 ⟨some 9,.len (.t 8),none⟩,
 ⟨some 10,.mv (.c (.d (.int .i64 0))),none⟩] [1,5,8,9,10])
 (.block 0 (.loop c_keep_suffixed_L0)))
 (.seq (.reg [⟨some 24,.mv (.t 5),none⟩,
 ⟨some 4,.mv (.t 24),none⟩] [4])
 .ret))))
noncomputable def x_keep_suffixed : Cx := ⟨Try.prog,22,Try.f22,25,[],[],[.t 4]⟩
theorem g_keep_suffixed : Good x_keep_suffixed := ⟨Try.func22,by kernel_rfl⟩
theorem rs_keep_suffixed : x_keep_suffixed.rs = [.t 4] := rfl
theorem i_keep_suffixed (hl : args.length ≤ 25) (h : Run x_keep_suffixed K [.code c_keep_suffixed] (argF args) E σ) : ACalls Try.prog 22 args σ K :=
  acalls_of (cx := x_keep_suffixed) (code := Try.f22.body.getD .skip) g_keep_suffixed (by kernel_rfl) Try.ntmps22 hl (compC_rc x_keep_suffixed _ (ctOf c_keep_suffixed) _ [] (by kernel_rfl)) h
def c_keep_renamedType_L0 : C := (.seq (.reg [⟨some 25,.bin .lss (.t 24) (.t 23),none⟩] [1,4,5,22,23,24,25])
 (.seq (.cond (.t 25) .skip
 (.exit 0))
 (.seq (.block 1 (.seq (.reg [⟨some 26,.ix (.t 22) (.t 24) 3,none⟩,
 ⟨some 27,.ld (.t 26) (some 3),none⟩,
 ⟨some 7,.al [(.d (.int .i64 0)),(.d (.str [])),.nils] false,none⟩,
 ⟨none,.st (.t 7) (.t 27) 3,none⟩] [1,4,5,7,22,23,24])
 (.reg [⟨some 28,.fld (.t 5) 2,none⟩,
 ⟨some 29,.ldl (.t 28) none,none⟩,
 ⟨some 30,.ldl (.t 7) (some 3),none⟩,
 ⟨some 31,.mv (.t 1),none⟩,
 ⟨some 32,.call 23 [(.t 30),(.t 31)],none⟩,
 ⟨some 33,.bsl 3 1 [(.d (.int .i64 0)),(.d (.str [])),.nils] [(0,3,(.t 32))],none⟩,
 ⟨some 34,.app 46 3 48 (.t 29) (.t 33),none⟩,
 ⟨some 35,.fld (.t 5) 2,none⟩,
 ⟨none,.st (.t 35) (.t 34) 1,none⟩] [1,4,5,22,23,24])))
 (.reg [⟨some 36,.bin .add (.t 24) (.c (.d (.int .i64 1))),none⟩,
 ⟨some 24,.mv (.t 36),none⟩] [1,4,5,22,23,24]))))
def c_keep_renamedType : C := (.seq (.reg [⟨some 2,.box (.t 0) false,none⟩,
 ⟨some 4,.al [(.d (.int .i64 0)),(.d (.str [])),.nils] false,none⟩] [1,2,4])
 (.seq (.reg [⟨some 8,.fld (.t 2) 0,none⟩,
 ⟨some 9,.ldl (.t 8) none,none⟩,
 ⟨some 10,.fld (.t 2) 1,none⟩,
 ⟨some 11,.ldl (.t 10) none,none⟩,
 ⟨some 12,.bld [(.d (.int .i64 0)),(.d (.str [])),.nils] [(0,1,(.t 9)),(1,1,(.t 11))],none⟩,
 ⟨some 5,.al [(.d (.int .i64 0)),(.d (.str [])),.nils] false,none⟩,
 ⟨none,.st (.t 5) (.t 12) 3,none⟩] [1,2,4,5])
 (.seq (.seq (.reg [⟨some 13,.fld (.t 2) 0,none⟩,
 ⟨some 14,.ldl (.t 13) none,none⟩,
 ⟨some 15,.bin .eql (.t 14) (.c (.d (.int .i64 4))),none⟩] [1,2,4,5,15])
 (.cond (.t 15) (.reg [⟨some 16,.fld (.t 5) 1,none⟩,
 ⟨some 17,.ldl (.t 16) none,none⟩,
 ⟨some 18,.mv (.t 1),none⟩,
 ⟨some 19,.bin .add (.t 17) (.t 18),none⟩,
 ⟨some 20,.fld (.t 5) 1,none⟩,
 ⟨none,.st (.t 20) (.t 19) 1,none⟩] [1,2,4,5])
 .skip))
 (.seq (.seq (.reg [⟨some 21,.fld (.t 2) 2,none⟩,
 ⟨some 22,.ldl (.t 21) none,none⟩,
 ⟨some 23,.len (.t 22),none⟩,
 ⟨some 24,.mv (.c (.d (.int .i64 0))),none⟩] [1,4,5,22,23,24])
 (.block 0 (.loop c_keep_renamedType_L0)))
 (.seq (.reg [⟨some 37,.ldl (.t 5) (some 3),none⟩,
 ⟨none,.st (.t 4) (.t 37) 3,none⟩] [4])
 .ret)))))
noncomputable def x_keep_renamedType : Cx := ⟨Try.prog,23,Try.f23,38,[300009,300011,300014,300017,300022,300029,300030,300037],[],[.c 4 (some 3)]⟩
theorem g_keep_renamedType : Good x_keep_renamedType := ⟨Try.func23,by kernel_rfl⟩
theorem rs_keep_renamedType : x_keep_renamedType.rs = [.c 4 (some 3)] := rfl
theorem i_keep_renamedType (hl : args.length ≤ 38) (h : Run x_keep_renamedType K [.code c_keep_renamedType] (argF args) E σ) : ACalls Try.prog 23 args σ K :=
  acalls_of (cx := x_keep_renamedType) (code := Try.f23.body.getD .skip) g_keep_renamedType (by kernel_rfl) Try.ntmps23 hl (compC_rc x_keep_renamedType _ (ctOf c_keep_renamedType) _ [] (by kernel_rfl)) h
def c_keep_renamed_L0 : C := (.seq (.reg [⟨some 36,.bin .lss (.t 35) (.t 34),none⟩] [1,2,4,5,33,34,35,36])
 (.seq (.cond (.t 36) .skip
 (.exit 0))
 (.seq (.block 1 (.seq (.reg [⟨some 37,.ix (.t 33) (.t 35) 6,none⟩,
 ⟨some 38,.ld (.t 37) (some 6),none⟩,
 ⟨some 7,.al [(.d (.int .i64 0)),(.d (.str [])),(.d (.int .i64 0)),.nils,.nils,.nils] false,none⟩,
 ⟨none,.st (.t 7) (.t 38) 6,none⟩] [1,2,4,5,7,33,34,35])
 (.reg [⟨some 39,.fld (.t 5) 4,none⟩,
 ⟨some 40,.ldl (.t 39) none,none⟩,
 ⟨some 41,.ldl (.t 7) (some 6),none⟩,
 ⟨some 42,.mv (.t 1),none⟩,
 ⟨some 43,.call 24 [(.t 41),(.t 42)],none⟩,
 ⟨some 44,.bsl 6 1 [(.d (.int .i64 0)),(.d (.str [])),(.d (.int .i64 0)),.nils,.nils,.nils] [(0,6,(.t 43))],none⟩,
 ⟨some 45,.app 52 6 104 (.t 40) (.t 44),none⟩,
 ⟨some 46,.fld (.t 5) 4,none⟩,
 ⟨none,.st (.t 46) (.t 45) 1,none⟩] [1,2,4,5,33,34,35])))
 (.reg [⟨some 47,.bin .add (.t 35) (.c (.d (.int .i64 1))),none⟩,
 ⟨some 35,.mv (.t 47),none⟩] [1,2,4,5,33,34,35]))))
def c_keep_renamed_L1 : C := (.seq (.reg [⟨some 52,.bin .lss (.t 51) (.t 50),none⟩] [1,4,5,49,50,51,52])
 (.seq (.cond (.t 52) .skip
 (.exit 2))
 (.seq (.block 3 (.seq (.reg [⟨some 53,.ix (.t 49) (.t 51) 8,none⟩,
 ⟨some 54,.ld (.t 53) (some 8),none⟩,
 ⟨some 9,.al [(.d (.str [])),.nils,(.d (.int .i64 0)),(.d (.str [])),(.d (.int .i64 0)),.nils,.nils,.nils] false,none⟩,
 ⟨none,.st (.t 9) (.t 54) 8,none⟩] [1,4,5,9,49,50,51])
 (.reg [⟨some 55,.fld (.t 5) 5,none⟩,
 ⟨some 56,.ldl (.t 55) none,none⟩,
 ⟨some 57,.fld (.t 9) 0,none⟩,
 ⟨some 58,.ldl (.t 57) none,none⟩,
 ⟨some 59,.fld (.t 9) 1,none⟩,
 ⟨some 60,.ldl (.t 59) none,none⟩,
 ⟨some 61,.mv (.t 1),none⟩,
 ⟨some 63,.fld (.t 9) 2,none⟩,
 ⟨some 64,.ldl (.t 63) (some 6),none⟩,
 ⟨some 65,.mv (.t 1),none⟩,
 ⟨some 62,.call 22 [(.t 60),(.t 61)],none⟩,
 ⟨some 66,.call 24 [(.t 64),(.t 65)],none⟩,
 ⟨some 67,.bld [(.d (.str [])),.nils,(.d (.int .i64 0)),(.d (.str [])),(.d (.int .i64 0)),.nils,.nils,.nils] [(0,1,(.t 58)),(1,1,(.t 62)),(2,6,(.t 66))],none⟩,
 ⟨some 68,.bsl 8 1 [(.d (.str [])),.nils,(.d (.int .i64 0)),(.d (.str [])),(.d (.int .i64 0)),.nils,.nils,.nils] [(0,8,(.t 67))],none⟩,
 ⟨some 69,.app 82 8 144 (.t 56) (.t 68),none⟩,
 ⟨some 70,.fld (.t 5) 5,none⟩,
 ⟨none,.st (.t 70) (.t 69) 1,none⟩] [1,4,5,49,50,51])))
 (.reg [⟨some 71,.bin .add (.t 51) (.c (.d (.int .i64 1))),none⟩,
 ⟨some 51,.mv (.t 71),none⟩] [1,4,5,49,50,51]))))
def c_keep_renamed : C := (.seq (.reg [⟨some 2,.box (.t 0) false,none⟩,
 ⟨some 4,.al [(.d (.int .i64 0)),(.d (.str [])),(.d (.int .i64 0)),.nils,.nils,.nils] false,none⟩] [1,2,4])
 (.seq (.reg [⟨some 5,.al [(.d (.int .i64 0)),(.d (.str [])),(.d (.int .i64 0)),.nils,.nils,.nils] false,none⟩,
 ⟨some 10,.fld (.t 2) 0,none⟩,
 ⟨some 11,.ldl (.t 10) none,none⟩,
 ⟨some 12,.fld (.t 2) 1,none⟩,
 ⟨some 13,.ldl (.t 12) none,none⟩,
 ⟨some 14,.fld (.t 2) 2,none⟩,
 ⟨some 15,.ldl (.t 14) none,none⟩,
 ⟨some 16,.fld (.t 2) 3,none⟩,
 ⟨some 17,.ldl (.t 16) none,none⟩,
 ⟨some 18,.mv (.t 1),none⟩,
 ⟨some 19,.call 22 [(.t 17),(.t 18)],none⟩,
 ⟨some 20,.bld [(.d (.int .i64 0)),(.d (.str [])),(.d (.int .i64 0)),.nils,.nils,.nils] [(0,1,(.t 11)),(1,1,(.t 13)),(2,1,(.t 15)),(3,1,(.t 19))],none⟩,
 ⟨none,.st (.t 5) (.t 20) 6,none⟩] [1,2,4,5])
 (.seq (.seq (.reg [⟨some 21,.fld (.t 2) 0,none⟩,
 ⟨some 22,.ldl (.t 21) none,none⟩,
 ⟨some 23,.bin .neq (.t 22) (.c (.d (.int .i64 6))),none⟩] [1,2,4,5,23])
 (.cond (.t 23) (.reg [⟨some 24,.fld (.t 2) 1,none⟩,
 ⟨some 25,.ldl (.t 24) none,none⟩,
 ⟨some 26,.bsl 1 1 [(.d (.str []))] [(0,1,(.t 25))],none⟩,
 ⟨some 27,.mv (.t 1),none⟩,
 ⟨some 28,.call 22 [(.t 26),(.t 27)],none⟩,
 ⟨some 29,.ix (.t 28) (.c (.d (.int .i64 0))) 1,none⟩,
 ⟨some 30,.ld (.t 29) none,none⟩,
 ⟨some 31,.fld (.t 5) 1,none⟩,
 ⟨none,.st (.t 31) (.t 30) 1,none⟩] [1,2,4,5])
 .skip))
 (.seq (.seq (.reg [⟨some 32,.fld (.t 2) 4,none⟩,
 ⟨some 33,.ldl (.t 32) none,none⟩,
 ⟨some 34,.len (.t 33),none⟩,
 ⟨some 35,.mv (.c (.d (.int .i64 0))),none⟩] [1,2,4,5,33,34,35])
 (.block 0 (.loop c_keep_renamed_L0)))
 (.seq (.seq (.reg [⟨some 48,.fld (.t 2) 5,none⟩,
 ⟨some 49,.ldl (.t 48) none,none⟩,
 ⟨some 50,.len (.t 49),none⟩,
 ⟨some 51,.mv (.c (.d (.int .i64 0))),none⟩] [1,4,5,49,50,51])
 (.block 2 (.loop c_keep_renamed_L1)))
 (.seq (.reg [⟨some 72,.ldl (.t 5) (some 6),none⟩,
 ⟨none,.st (.t 4) (.t 72) 6,none⟩] [4])
 .ret))))))
def t_keep_renamed : List (List Nat × PT) := [([1,2,4],.done),([1,2,4,5],(.lay 11 (.one 0 (.one 1 (.one 2 (.one 3 (.one 4 (.one 5 (.one 6 (.one 7 (.one 8 (.one 9 (.one 10 (.one 12 .done)))))))))))))),([1,2,4,5,23],.done),([1,2,4,5],.done),([1,2,4,5,33,34,35],.done),([1,2,4,5,33,34,35,36],.done),([1,2,4,5,7,33,34,35],.done),([1,2,4,5,33,34,35],.done),([1,2,4,5,33,34,35],.done),([1,4,5,49,50,51],.done),([1,4,5,49,50,51,52],.done),([1,4,5,9,49,50,51],.done),([1,4,5,49,50,51],(.one 0 (.one 1 (.one 2 (.one 3 (.one 4 (.one 5 (.one 6 (.one 8 (.one 9 (.one 10 (.one 7 (.one 11 (.one 12 (.one 13 (.one 14 (.one 15 (.one 16 .done)))))))))))))))))),([1,4,5,49,50,51],.done),([4],.done)]
noncomputable def x_keep_renamed : Cx := ⟨Try.prog,24,Try.f24,73,[300011,300013,300015,300017,300022,300025,300033,300040,300041,300049,300056,300058,300060,300064,300072],[],[.c 4 (some 6)]⟩
theorem g_keep_renamed : Good x_keep_renamed := ⟨Try.func24,by kernel_rfl⟩
theorem rs_keep_renamed : x_keep_renamed.rs = [.c 4 (some 6)] := rfl
theorem i_keep_renamed (hl : args.length ≤ 73) (h : Run x_keep_renamed K [.code c_keep_renamed] (argF args) E σ) : ACalls Try.prog 24 args σ K :=
  acalls_of (cx := x_keep_renamed) (code := Try.f24.body.getD .skip) g_keep_renamed (by kernel_rfl) Try.ntmps24 hl (compC_rc x_keep_renamed _ t_keep_renamed _ [] (by kernel_rfl)) h
def c_keep_SameInts_L0 : C := (.seq (.reg [⟨some 14,.bin .lss (.t 13) (.t 12),none⟩] [0,1,12,13,14])
 (.seq (.cond (.t 14) .skip
 (.exit 0))
 (.seq (.block 1 (.seq (.reg [⟨some 15,.mv (.t 13),none⟩,
 ⟨some 5,.mv (.t 15),none⟩] [0,1,5,12,13])
 (.seq (.reg [⟨some 16,.mv (.t 0),none⟩,
 ⟨some 17,.mv (.t 5),none⟩,
 ⟨some 18,.ix (.t 16) (.t 17) 1,none⟩,
 ⟨some 19,.ld (.t 18) none,none⟩,
 ⟨some 20,.mv (.t 1),none⟩,
 ⟨some 21,.mv (.t 5),none⟩,
 ⟨some 22,.ix (.t 20) (.t 21) 1,none⟩,
 ⟨some 23,.ld (.t 22) none,none⟩,
 ⟨some 24,.bin .neq (.t 19) (.t 23),none⟩] [0,1,12,13,24])
 (.cond (.t 24) (.seq (.reg [⟨some 4,.mv (.c (.d (.bool false))),none⟩] [4])
 .ret)
 .skip))))
 (.reg [⟨some 25,.bin .add (.t 13) (.c (.d (.int .i64 1))),none⟩,
 ⟨some 13,.mv (.t 25),none⟩] [0,1,12,13]))))
def c_keep_SameInts : C := (.seq (.reg [⟨some 4,.mv (.c (.d (.bool false))),none⟩] [0,1])
 (.seq (.seq (.reg [⟨some 6,.mv (.t 0),none⟩,
 ⟨some 7,.len (.t 6),none⟩,
 ⟨some 8,.mv (.t 1),none⟩,
 ⟨some 9,.len (.t 8),none⟩,
 ⟨some 10,.bin .neq (.t 7) (.t 9),none⟩] [0,1,10])
 (.cond (.t 10) (.seq (.reg [⟨some 4,.mv (.c (.d (.bool false))),none⟩] [4])
 .ret)
 .skip))
 (.seq (.seq (.reg [⟨some 11,.mv (.t 0),none⟩,
 ⟨some 12,.len (.t 11),none⟩,
 ⟨some 13,.mv (.c (.d (.int .i64 0))),none⟩] [0,1,12,13])
 (.block 0 (.loop c_keep_SameInts_L0)))
 (.seq (.reg [⟨some 4,.mv (.c (.d (.bool true))),none⟩] [4])
 .ret))))
noncomputable def x_keep_SameInts : Cx := ⟨Try.prog,30,Try.f30,26,[],[],[.t 4]⟩
theorem g_keep_SameInts : Good x_keep_SameInts := ⟨Try.func30,by kernel_rfl⟩
theorem rs_keep_SameInts : x_keep_SameInts.rs = [.t 4] := rfl
theorem i_keep_SameInts (hl : args.length ≤ 26) (h : Run x_keep_SameInts K [.code c_keep_SameInts] (argF args) E σ) : ACalls Try.prog 30 args σ K :=
  acalls_of (cx := x_keep_SameInts) (code := Try.f30.body.getD .skip) g_keep_SameInts (by kernel_rfl) Try.ntmps30 hl (compC_rc x_keep_SameInts _ (ctOf c_keep_SameInts) _ [] (by kernel_rfl)) h
attribute [go_sem] rs_keep_Prog rs_keep_Long rs_keep_Renamed rs_keep_SameRows rs_keep_Names rs_keep_written rs_keep_expr rs_keep_longest rs_keep_longType rs_keep_long rs_keep_suffixed rs_keep_renamedType rs_keep_renamed rs_keep_SameInts
end Go.Ab
