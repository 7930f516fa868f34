/- The compact codes of the functions of this seat, computed out of the translation. The printer: levels, places, truth values; open, parenthesized, list, parts. Conditions: none. -/
import Derived.Test.YtifplkldbbcldaaGreatDoorProg
import Derived.KernelRfl
import Derived.Test.YtifplkldbbcldaaGreatDoorXPh
set_option linter.unusedSimpArgs false
set_option linter.unusedVariables false
set_option maxRecDepth 4000
set_option maxHeartbeats 8000000
open List renaming map_cons→AG,map_nil→AH,length_cons→AB,length_append→AA,length_nil→AD,append_assoc→AS
open Int renaming reduceBEq→AP
namespace Go.Ab
open Go.Proofs
variable {args:List AV} {σ:AN} {K:AV→AN→Prop}
def RN:C:=(.seq (.reg [Qo 1 (.box (.t 0) false),
 Qo 2 (.mv (.c (.d (.bool false))))] [1])
 (.seq (.seq (.reg [Qo 3 (.ldl (.t 1) (some 2)),
 Qo 4 (.call 16 [(.t 3)]),
 Qo 5 (.un .not (.t 4))] [1,5])
 (.cond (.t 5) (.seq (.reg [Qo 2 (.mv (.c (.d (.bool true))))] [2])
 .ret)
 .skip))
 (.seq (.reg [Qo 6 (.ldl (.t 1) (some 2)),
 Qo 8 (.ldl (.t 1) (some 2)),
 Qo 7 (.call 17 [(.t 6)]),
 Qo 9 (.call 18 [(.t 8)]),
 Qo 10 (.bin .eql (.t 7) (.t 9)),
 Qm 11 10,
 ⟨some 12,.call 15 [],some (11,true)⟩,
 Qo 13 (.pick (.t 11) (.t 12) (.c (.d (.bool false)))),
 Qm 2 13] [2])
 .ret)))
def Rm:List (List Nat×PT):=[([1],.done),([1,5],.done),([2],.done),([2],(.one 0 (.one 2 (.one 1 (.one 3 (.one 4 (.one 5 (.one 6 (.one 7 (.one 8 .done))))))))))]
noncomputable def Df:Cx:=⟨Tryz.prog,4,Tryz.f4,14,[300003,300006,300008],[],[.t 2]⟩
theorem Gq:Good Df:=⟨Tryz.func4,by kernel_rfl⟩
theorem Q7:Df.rs=[.t 2]:=rfl
theorem RQ (hl:args.length≤14) (h:Run Df K [.code RN] (Ar args) E σ):AQ Tryz.prog 4 args σ K:=
 AW (cx:=Df) (code:=Tryz.f4.body.getD .skip) Gq (by kernel_rfl) Tryz.ntmps4 hl (AZ Df _ Rm _ [] (by kernel_rfl)) h
def Tu:C:=(.seq (.reg [Qo 0 (.mv (.c (.d (.bool false))))] [])
 (.seq (.reg [Qo 5 (.call 12 [(.c (.d (.str [102,117,110,32,102,40,120,41,61,105,102,32,120,60,61,48,32,116,104,101,110,40,41,32,101,108,115,101,32,102,40,120,45,49,41,59])))]),
 Qm 4 5,
 Qo 6 (.ext (.t 4) 0),
 Qo 7 (.ext (.t 4) 1),
 Qo 8 (.ext (.t 4) 2),
 Qo 1 (.al [.AX,.AX] false),
 ⟨none,.st (.t 1) (.t 6) 2,none⟩,
 Qm 2 7,
 Qm 3 8] [1,3])
 (.seq (.reg [Qm 9 3,
 Qo 10 (.bin .eql (.t 9) (.c (.d (.int .i64 0)))),
 Qm 11 10,
 ⟨some 12,.fld (.t 1) 1,some (11,true)⟩,
 ⟨some 13,.ldl (.t 12) none,some (11,true)⟩,
 ⟨some 14,.len (.t 13),some (11,true)⟩,
 ⟨some 15,.bin .eql (.t 14) (.c (.d (.int .i64 1))),some (11,true)⟩,
 Qo 16 (.pick (.t 11) (.t 15) (.c (.d (.bool false)))),
 Qm 17 16,
 ⟨some 18,.ldl (.t 1) (some 2),some (17,true)⟩,
 ⟨some 19,.call 17 [(.t 18)],some (17,true)⟩,
 ⟨some 20,.bin .eql (.t 19) (.c (.d (.str [102,117,110,32,102,40,120,41,32,61,32,105,102,32,120,32,60,61,32,48,32,116,104,101,110,32,40,41,32,101,108,115,101,32,102,40,120,32,45,32,49,41,59,10]))),some (17,true)⟩,
 Qo 21 (.pick (.t 17) (.t 20) (.c (.d (.bool false)))),
 Qm 0 21] [0])
 .ret)))
noncomputable def IL:Cx:=⟨Tryz.prog,15,Tryz.f15,22,[300013,300018],[],[.t 0]⟩
theorem UI:Good IL:=⟨Tryz.func15,by kernel_rfl⟩
theorem ZX:IL.rs=[.t 0]:=rfl
theorem aN (hl:args.length≤22) (h:Run IL K [.code Tu] (Ar args) E σ):AQ Tryz.prog 15 args σ K:=
 AW (cx:=IL) (code:=Tryz.f15.body.getD .skip) UI (by kernel_rfl) Tryz.ntmps15 hl (AZ IL _ (Az Tu) _ [] (by kernel_rfl)) h
def YI:C:=(.seq (.reg [Qo 66 (.bin .lss (.t 65) (.t 64))] [1,3,23,24,25,46,47,48,63,64,65,66])
 (.seq (.cond (.t 66) .skip
 (.exit 4))
 (.seq (.block 5 (.seq (.reg [Qo 67 (.ix (.t 63) (.t 65) 3),
 Qo 68 (.ld (.t 67) (some 3)),
 Qo 9 (.al [(.d (.int .i64 0)),(.d (.str [])),.AX] false),
 ⟨none,.st (.t 9) (.t 68) 3,none⟩] [1,3,9,23,24,25,46,47,48,63,64,65])
 (.seq (.reg [Qo 69 (.ldl (.t 9) (some 3)),
 Qo 70 (.call 40 [(.t 69),(.t 3)]),
 Qo 71 (.un .not (.t 70))] [1,3,23,24,25,46,47,48,63,64,65,71])
 (.cond (.t 71) (.seq (.reg [Qo 2 (.mv (.c (.d (.bool false))))] [2])
 .ret)
 .skip))))
 (.reg [Qo 72 (.bin .add (.t 65) (.c (.d (.int .i64 1)))),
 Qm 65 72] [1,3,23,24,25,46,47,48,63,64,65]))))
def YJ:C:=(.seq (.reg [Qo 49 (.bin .lss (.t 48) (.t 47))] [1,3,23,24,25,46,47,48,49])
 (.seq (.cond (.t 49) .skip
 (.exit 2))
 (.seq (.block 3 (.seq (.reg [Qo 50 (.ix (.t 46) (.t 48) 2),
 Qo 51 (.ld (.t 50) (some 2)),
 Qo 7 (.al [(.d (.str [])),.AX] false),
 ⟨none,.st (.t 7) (.t 51) 2,none⟩] [1,3,7,23,24,25,46,47,48])
 (.seq (.seq (.reg [Qo 52 (.fld (.t 7) 0),
 Qo 53 (.ldl (.t 52) none),
 Qo 54 (.Hp (.t 53)),
 Qo 55 (.bin .gtr (.t 54) (.c (.d (.int .i64 40)))),
 Qm 56 55,
 ⟨some 57,.fld (.t 7) 1,some (56,false)⟩,
 ⟨some 58,.ldl (.t 57) none,some (56,false)⟩,
 ⟨some 59,.len (.t 58),some (56,false)⟩,
 ⟨some 60,.bin .gtr (.t 59) (.c (.d (.int .i64 10))),some (56,false)⟩,
 Qo 61 (.pick (.t 56) (.c (.d (.bool true))) (.t 60))] [1,3,7,23,24,25,46,47,48,61])
 (.cond (.t 61) (.seq (.reg [Qo 2 (.mv (.c (.d (.bool false))))] [2])
 .ret)
 .skip))
 (.seq (.reg [Qo 62 (.fld (.t 7) 1),
 Qo 63 (.ldl (.t 62) none),
 Qo 64 (.len (.t 63)),
 Qo 65 (.mv (.c (.d (.int .i64 0))))] [1,3,23,24,25,46,47,48,63,64,65])
 (.block 4 (.loop YI))))))
 (.reg [Qo 73 (.bin .add (.t 48) (.c (.d (.int .i64 1)))),
 Qm 48 73] [1,3,23,24,25,46,47,48]))))
def YK:C:=(.seq (.reg [Qo 26 (.bin .lss (.t 25) (.t 24))] [1,3,23,24,25,26])
 (.seq (.cond (.t 26) .skip
 (.exit 0))
 (.seq (.block 1 (.seq (.reg [Qo 27 (.ix (.t 23) (.t 25) 3),
 Qo 28 (.ld (.t 27) (some 3)),
 Qo 5 (.al [(.d (.str [])),.AX,.AX] false),
 ⟨none,.st (.t 5) (.t 28) 3,none⟩] [1,3,5,23,24,25])
 (.seq (.seq (.reg [Qo 29 (.fld (.t 5) 0),
 Qo 30 (.ldl (.t 29) none),
 Qo 31 (.Hp (.t 30)),
 Qo 32 (.bin .gtr (.t 31) (.c (.d (.int .i64 40)))),
 Qm 33 32,
 ⟨some 34,.fld (.t 5) 1,some (33,false)⟩,
 ⟨some 35,.ldl (.t 34) none,some (33,false)⟩,
 ⟨some 36,.call 39 [(.t 35),(.c (.d (.int .i64 10)))],some (33,false)⟩,
 ⟨some 37,.un .not (.t 36),some (33,false)⟩,
 Qo 38 (.pick (.t 33) (.c (.d (.bool true))) (.t 37)),
 Qm 39 38,
 ⟨some 40,.fld (.t 5) 2,some (39,false)⟩,
 ⟨some 41,.ldl (.t 40) none,some (39,false)⟩,
 ⟨some 42,.len (.t 41),some (39,false)⟩,
 ⟨some 43,.bin .gtr (.t 42) (.c (.d (.int .i64 10))),some (39,false)⟩,
 Qo 44 (.pick (.t 39) (.c (.d (.bool true))) (.t 43))] [1,3,5,23,24,25,44])
 (.cond (.t 44) (.seq (.reg [Qo 2 (.mv (.c (.d (.bool false))))] [2])
 .ret)
 .skip))
 (.seq (.reg [Qo 45 (.fld (.t 5) 2),
 Qo 46 (.ldl (.t 45) none),
 Qo 47 (.len (.t 46)),
 Qo 48 (.mv (.c (.d (.int .i64 0))))] [1,3,23,24,25,46,47,48])
 (.block 2 (.loop YJ))))))
 (.reg [Qo 74 (.bin .add (.t 25) (.c (.d (.int .i64 1)))),
 Qm 25 74] [1,3,23,24,25]))))
def YL:C:=(.seq (.reg [Qo 79 (.bin .lss (.t 78) (.t 77))] [3,76,77,78,79])
 (.seq (.cond (.t 79) .skip
 (.exit 6))
 (.seq (.block 7 (.seq (.reg [Qo 80 (.ix (.t 76) (.t 78) 8),
 Qo 81 (.ld (.t 80) (some 8)),
 Qo 11 (.al [(.d (.str [])),.AX,(.d (.int .i64 0)),(.d (.str [])),(.d (.int .i64 0)),.AX,.AX,.AX] false),
 ⟨none,.st (.t 11) (.t 81) 8,none⟩] [3,11,76,77,78])
 (.seq (.reg [Qo 82 (.fld (.t 11) 0),
 Qo 83 (.ldl (.t 82) none),
 Qo 84 (.Hp (.t 83)),
 Qo 85 (.bin .gtr (.t 84) (.c (.d (.int .i64 40)))),
 Qm 86 85,
 ⟨some 87,.fld (.t 11) 1,some (86,false)⟩,
 ⟨some 88,.ldl (.t 87) none,some (86,false)⟩,
 ⟨some 89,.call 39 [(.t 88),(.c (.d (.int .i64 10)))],some (86,false)⟩,
 ⟨some 90,.un .not (.t 89),some (86,false)⟩,
 Qo 91 (.pick (.t 86) (.c (.d (.bool true))) (.t 90)),
 Qm 92 91,
 ⟨some 93,.fld (.t 11) 2,some (92,false)⟩,
 ⟨some 94,.ldl (.t 93) (some 6),some (92,false)⟩,
 ⟨some 95,.call 41 [(.t 94),(.t 3)],some (92,false)⟩,
 ⟨some 96,.un .not (.t 95),some (92,false)⟩,
 Qo 97 (.pick (.t 92) (.c (.d (.bool true))) (.t 96))] [3,76,77,78,97])
 (.cond (.t 97) (.seq (.reg [Qo 2 (.mv (.c (.d (.bool false))))] [2])
 .ret)
 .skip))))
 (.reg [Qo 98 (.bin .add (.t 78) (.c (.d (.int .i64 1)))),
 Qm 78 98] [3,76,77,78]))))
def Wk:C:=(.seq (.reg [Qo 1 (.box (.t 0) false),
 Qo 2 (.mv (.c (.d (.bool false))))] [1])
 (.seq (.seq (.reg [Qo 12 (.fld (.t 1) 0),
 Qo 13 (.ldl (.t 12) none),
 Qo 14 (.len (.t 13)),
 Qo 15 (.bin .gtr (.t 14) (.c (.d (.int .i64 14)))),
 Qm 16 15,
 ⟨some 17,.fld (.t 1) 1,some (16,false)⟩,
 ⟨some 18,.ldl (.t 17) none,some (16,false)⟩,
 ⟨some 19,.len (.t 18),some (16,false)⟩,
 ⟨some 20,.bin .gtr (.t 19) (.c (.d (.int .i64 26))),some (16,false)⟩,
 Qo 21 (.pick (.t 16) (.c (.d (.bool true))) (.t 20))] [1,21])
 (.cond (.t 21) (.seq (.reg [Qo 2 (.mv (.c (.d (.bool false))))] [2])
 .ret)
 .skip))
 (.seq (.reg [Qo 3 (.ex (.alt 3 [(.d (.int .i64 0))]) []),
 ⟨none,.st (.t 3) (.c (.d (.int .i64 200))) 1,none⟩] [1,3])
 (.seq (.seq (.reg [Qo 22 (.fld (.t 1) 0),
 Qo 23 (.ldl (.t 22) none),
 Qo 24 (.len (.t 23)),
 Qo 25 (.mv (.c (.d (.int .i64 0))))] [1,3,23,24,25])
 (.block 0 (.loop YK)))
 (.seq (.seq (.reg [Qo 75 (.fld (.t 1) 1),
 Qo 76 (.ldl (.t 75) none),
 Qo 77 (.len (.t 76)),
 Qo 78 (.mv (.c (.d (.int .i64 0))))] [3,76,77,78])
 (.block 6 (.loop YL)))
 (.seq (.reg [Qo 2 (.mv (.c (.d (.bool true))))] [2])
 .ret))))))
noncomputable def Lb:Cx:=⟨Tryz.prog,16,Tryz.f16,99,[3,300013,300018,300023,300030,300035,300041,300046,300053,300058,300063,300069,300076,300083,300088,300094],[],[.t 2]⟩
theorem DD:Good Lb:=⟨Tryz.func16,by kernel_rfl⟩
theorem eY:Lb.rs=[.t 2]:=rfl
theorem gP (hl:args.length≤99) (h:Run Lb K [.code Wk] (Ar args) E σ):AQ Tryz.prog 16 args σ K:=
 AW (cx:=Lb) (code:=Tryz.f16.body.getD .skip) DD (by kernel_rfl) Tryz.ntmps16 hl (AZ Lb _ (Az Wk) _ [] (by kernel_rfl)) h
def XR:C:=(.seq (.seq (.reg [Qm 6 5,
 Qm 7 0,
 Qo 8 (.len (.t 7)),
 Qo 9 (.bin .lss (.t 6) (.t 8)),
 Qm 10 9,
 ⟨some 11,.mv (.t 5),some (10,true)⟩,
 ⟨some 12,.mv (.t 1),some (10,true)⟩,
 ⟨some 13,.bin .leq (.t 11) (.t 12),some (10,true)⟩,
 Qo 14 (.pick (.t 10) (.t 13) (.c (.d (.bool false))))] [0,1,5,14])
 (.cond (.t 14) .skip
 (.exit 0)))
 (.seq (.block 1 (.seq (.reg [Qm 17 0,
 Qm 18 5,
 Qo 19 (.ix (.t 17) (.t 18) 1),
 Qo 20 (.ld (.t 19) none),
 Qo 21 (.Hp (.t 20)),
 Qo 22 (.bin .gtr (.t 21) (.c (.d (.int .i64 40))))] [0,1,5,22])
 (.cond (.t 22) (.seq (.reg [Qo 4 (.mv (.c (.d (.bool false))))] [4])
 .ret)
 .skip)))
 (.reg [Qm 15 5,
 Qo 16 (.bin .add (.t 15) (.c (.d (.int .i64 1)))),
 Qm 5 16] [0,1,5])))
def VJ:C:=(.seq (.reg [Qo 4 (.mv (.c (.d (.bool false))))] [0,1])
 (.seq (.seq (.reg [Qo 5 (.mv (.c (.d (.int .i64 0))))] [0,1,5])
 (.block 0 (.loop XR)))
 (.seq (.reg [Qm 23 0,
 Qo 24 (.len (.t 23)),
 Qm 25 1,
 Qo 26 (.bin .leq (.t 24) (.t 25)),
 Qm 4 26] [4])
 .ret)))
noncomputable def Jh:Cx:=⟨Tryz.prog,39,Tryz.f39,27,[],[],[.t 4]⟩
theorem Mb:Good Jh:=⟨Tryz.func39,by kernel_rfl⟩
theorem aZ:Jh.rs=[.t 4]:=rfl
theorem dW (hl:args.length≤27) (h:Run Jh K [.code VJ] (Ar args) E σ):AQ Tryz.prog 39 args σ K:=
 AW (cx:=Jh) (code:=Tryz.f39.body.getD .skip) Mb (by kernel_rfl) Tryz.ntmps39 hl (AZ Jh _ (Az VJ) _ [] (by kernel_rfl)) h
def VK:C:=(.seq (.seq (.reg [Qm 21 5,
 Qo 22 (.fld (.t 2) 2),
 Qo 23 (.ldl (.t 22) none),
 Qo 24 (.len (.t 23)),
 Qo 25 (.bin .lss (.t 21) (.t 24))] [1,2,5,25])
 (.cond (.t 25) .skip
 (.exit 0)))
 (.seq (.block 1 (.seq (.reg [Qo 28 (.fld (.t 2) 2),
 Qo 29 (.ldl (.t 28) none),
 Qm 30 5,
 Qo 31 (.ix (.t 29) (.t 30) 3),
 Qo 32 (.ld (.t 31) (some 3)),
 Qm 33 1,
 Qo 34 (.call 40 [(.t 32),(.t 33)]),
 Qo 35 (.un .not (.t 34))] [1,2,5,35])
 (.cond (.t 35) (.seq (.reg [Qo 4 (.mv (.c (.d (.bool false))))] [4])
 .ret)
 .skip)))
 (.reg [Qm 26 5,
 Qo 27 (.bin .add (.t 26) (.c (.d (.int .i64 1)))),
 Qm 5 27] [1,2,5])))
def Rw:C:=(.seq (.reg [Qo 2 (.box (.t 0) false),
 Qo 4 (.mv (.c (.d (.bool false))))] [1,2])
 (.seq (.reg [Qm 6 1,
 Qo 7 (.nck (.t 6)),
 Qo 8 (.ld (.t 7) none),
 Qo 9 (.bin .sub (.t 8) (.c (.d (.int .i64 1)))),
 Qo 10 (.nck (.t 6)),
 ⟨none,.st (.t 10) (.t 9) 1,none⟩] [1,2])
 (.seq (.seq (.reg [Qm 11 1,
 Qo 12 (.nck (.t 11)),
 Qo 13 (.ld (.t 12) none),
 Qo 14 (.bin .lss (.t 13) (.c (.d (.int .i64 0)))),
 Qm 15 14,
 ⟨some 16,.fld (.t 2) 1,some (15,false)⟩,
 ⟨some 17,.ldl (.t 16) none,some (15,false)⟩,
 ⟨some 18,.Hp (.t 17),some (15,false)⟩,
 ⟨some 19,.bin .gtr (.t 18) (.c (.d (.int .i64 40))),some (15,false)⟩,
 Qo 20 (.pick (.t 15) (.c (.d (.bool true))) (.t 19))] [1,2,20])
 (.cond (.t 20) (.seq (.reg [Qo 4 (.mv (.c (.d (.bool false))))] [4])
 .ret)
 .skip))
 (.seq (.seq (.reg [Qo 5 (.mv (.c (.d (.int .i64 0))))] [1,2,5])
 (.block 0 (.loop VK)))
 (.seq (.reg [Qo 4 (.mv (.c (.d (.bool true))))] [4])
 .ret)))))
noncomputable def H0:Cx:=⟨Tryz.prog,40,Tryz.f40,36,[300017,300023,300029],[],[.t 4]⟩
theorem HJ:Good H0:=⟨Tryz.func40,by kernel_rfl⟩
theorem X4:H0.rs=[.t 4]:=rfl
theorem Yj (hl:args.length≤36) (h:Run H0 K [.code Rw] (Ar args) E σ):AQ Tryz.prog 40 args σ K:=
 AW (cx:=H0) (code:=Tryz.f40.body.getD .skip) HJ (by kernel_rfl) Tryz.ntmps40 hl (AZ H0 _ (Az Rw) _ [] (by kernel_rfl)) h
def YM:C:=(.seq (.seq (.reg [Qm 40 5,
 Qo 41 (.fld (.t 2) 4),
 Qo 42 (.ldl (.t 41) none),
 Qo 43 (.len (.t 42)),
 Qo 44 (.bin .lss (.t 40) (.t 43))] [1,2,5,44])
 (.cond (.t 44) .skip
 (.exit 0)))
 (.seq (.block 1 (.seq (.reg [Qo 47 (.fld (.t 2) 4),
 Qo 48 (.ldl (.t 47) none),
 Qm 49 5,
 Qo 50 (.ix (.t 48) (.t 49) 6),
 Qo 51 (.ld (.t 50) (some 6)),
 Qm 52 1,
 Qo 53 (.call 41 [(.t 51),(.t 52)]),
 Qo 54 (.un .not (.t 53))] [1,2,5,54])
 (.cond (.t 54) (.seq (.reg [Qo 4 (.mv (.c (.d (.bool false))))] [4])
 .ret)
 .skip)))
 (.reg [Qm 45 5,
 Qo 46 (.bin .add (.t 45) (.c (.d (.int .i64 1)))),
 Qm 5 46] [1,2,5])))
def YN:C:=(.seq (.seq (.reg [Qm 55 6,
 Qo 56 (.fld (.t 2) 5),
 Qo 57 (.ldl (.t 56) none),
 Qo 58 (.len (.t 57)),
 Qo 59 (.bin .lss (.t 55) (.t 58))] [1,2,6,59])
 (.cond (.t 59) .skip
 (.exit 2)))
 (.seq (.block 3 (.seq (.reg [Qo 62 (.fld (.t 2) 5),
 Qo 63 (.ldl (.t 62) none),
 Qm 64 6,
 Qo 65 (.ix (.t 63) (.t 64) 8),
 Qo 66 (.fld (.t 65) 0),
 Qo 67 (.ld (.t 66) none),
 Qo 68 (.Hp (.t 67)),
 Qo 69 (.bin .gtr (.t 68) (.c (.d (.int .i64 40)))),
 Qm 70 69,
 ⟨some 71,.fld (.t 2) 5,some (70,false)⟩,
 ⟨some 72,.ldl (.t 71) none,some (70,false)⟩,
 ⟨some 73,.mv (.t 6),some (70,false)⟩,
 ⟨some 74,.ix (.t 72) (.t 73) 8,some (70,false)⟩,
 ⟨some 75,.fld (.t 74) 1,some (70,false)⟩,
 ⟨some 76,.ld (.t 75) none,some (70,false)⟩,
 ⟨some 77,.call 39 [(.t 76),(.c (.d (.int .i64 10)))],some (70,false)⟩,
 ⟨some 78,.un .not (.t 77),some (70,false)⟩,
 Qo 79 (.pick (.t 70) (.c (.d (.bool true))) (.t 78)),
 Qm 80 79,
 ⟨some 81,.fld (.t 2) 5,some (80,false)⟩,
 ⟨some 82,.ldl (.t 81) none,some (80,false)⟩,
 ⟨some 83,.mv (.t 6),some (80,false)⟩,
 ⟨some 84,.ix (.t 82) (.t 83) 8,some (80,false)⟩,
 ⟨some 85,.fld (.t 84) 2,some (80,false)⟩,
 ⟨some 86,.ld (.t 85) (some 6),some (80,false)⟩,
 ⟨some 87,.mv (.t 1),some (80,false)⟩,
 ⟨some 88,.call 41 [(.t 86),(.t 87)],some (80,false)⟩,
 ⟨some 89,.un .not (.t 88),some (80,false)⟩,
 Qo 90 (.pick (.t 80) (.c (.d (.bool true))) (.t 89))] [1,2,6,90])
 (.cond (.t 90) (.seq (.reg [Qo 4 (.mv (.c (.d (.bool false))))] [4])
 .ret)
 .skip)))
 (.reg [Qm 60 6,
 Qo 61 (.bin .add (.t 60) (.c (.d (.int .i64 1)))),
 Qm 6 61] [1,2,6])))
def Wl:C:=(.seq (.reg [Qo 2 (.box (.t 0) false),
 Qo 4 (.mv (.c (.d (.bool false))))] [1,2])
 (.seq (.reg [Qm 7 1,
 Qo 8 (.nck (.t 7)),
 Qo 9 (.ld (.t 8) none),
 Qo 10 (.bin .sub (.t 9) (.c (.d (.int .i64 1)))),
 Qo 11 (.nck (.t 7)),
 ⟨none,.st (.t 11) (.t 10) 1,none⟩] [1,2])
 (.seq (.seq (.reg [Qm 12 1,
 Qo 13 (.nck (.t 12)),
 Qo 14 (.ld (.t 13) none),
 Qo 15 (.bin .lss (.t 14) (.c (.d (.int .i64 0)))),
 Qm 16 15,
 ⟨some 17,.fld (.t 2) 1,some (16,false)⟩,
 ⟨some 18,.ldl (.t 17) none,some (16,false)⟩,
 ⟨some 19,.Hp (.t 18),some (16,false)⟩,
 ⟨some 20,.bin .gtr (.t 19) (.c (.d (.int .i64 40))),some (16,false)⟩,
 Qo 21 (.pick (.t 16) (.c (.d (.bool true))) (.t 20)),
 Qm 22 21,
 ⟨some 23,.fld (.t 2) 3,some (22,false)⟩,
 ⟨some 24,.ldl (.t 23) none,some (22,false)⟩,
 ⟨some 25,.call 39 [(.t 24),(.c (.d (.int .i64 10)))],some (22,false)⟩,
 ⟨some 26,.un .not (.t 25),some (22,false)⟩,
 Qo 27 (.pick (.t 22) (.c (.d (.bool true))) (.t 26)),
 Qm 28 27,
 ⟨some 29,.fld (.t 2) 4,some (28,false)⟩,
 ⟨some 30,.ldl (.t 29) none,some (28,false)⟩,
 ⟨some 31,.len (.t 30),some (28,false)⟩,
 ⟨some 32,.bin .gtr (.t 31) (.c (.d (.int .i64 10))),some (28,false)⟩,
 Qo 33 (.pick (.t 28) (.c (.d (.bool true))) (.t 32)),
 Qm 34 33,
 ⟨some 35,.fld (.t 2) 5,some (34,false)⟩,
 ⟨some 36,.ldl (.t 35) none,some (34,false)⟩,
 ⟨some 37,.len (.t 36),some (34,false)⟩,
 ⟨some 38,.bin .gtr (.t 37) (.c (.d (.int .i64 10))),some (34,false)⟩,
 Qo 39 (.pick (.t 34) (.c (.d (.bool true))) (.t 38))] [1,2,39])
 (.cond (.t 39) (.seq (.reg [Qo 4 (.mv (.c (.d (.bool false))))] [4])
 .ret)
 .skip))
 (.seq (.seq (.reg [Qo 5 (.mv (.c (.d (.int .i64 0))))] [1,2,5])
 (.block 0 (.loop YM)))
 (.seq (.seq (.reg [Qo 6 (.mv (.c (.d (.int .i64 0))))] [1,2,6])
 (.block 2 (.loop YN)))
 (.seq (.reg [Qo 4 (.mv (.c (.d (.bool true))))] [4])
 .ret))))))
noncomputable def Lc:Cx:=⟨Tryz.prog,41,Tryz.f41,91,[300018,300024,300030,300036,300042,300048,300057,300063,300072,300082],[],[.t 4]⟩
theorem EE:Good Lc:=⟨Tryz.func41,by kernel_rfl⟩
theorem eZ:Lc.rs=[.t 4]:=rfl
theorem gQ (hl:args.length≤91) (h:Run Lc K [.code Wl] (Ar args) E σ):AQ Tryz.prog 41 args σ K:=
 AW (cx:=Lc) (code:=Tryz.f41.body.getD .skip) EE (by kernel_rfl) Tryz.ntmps41 hl (AZ Lc _ (Az Wl) _ [] (by kernel_rfl)) h
def Ks:C:=(.seq (.reg [Qo 2 (.mv (.c (.d (.str []))))] [0])
 (.seq (.reg [Qm 3 0,
 Qo 4 (.call 176 [(.t 3)]),
 Qm 2 4] [2])
 .ret))
noncomputable def EI:Cx:=⟨Tryz.prog,145,Tryz.f145,5,[],[],[.t 2]⟩
theorem LO:Good EI:=⟨Tryz.func145,by kernel_rfl⟩
theorem R5:EI.rs=[.t 2]:=rfl
theorem SP (hl:args.length≤5) (h:Run EI K [.code Ks] (Ar args) E σ):AQ Tryz.prog 145 args σ K:=
 AW (cx:=EI) (code:=Tryz.f145.body.getD .skip) LO (by kernel_rfl) Tryz.ntmps145 hl (AZ EI _ (Az Ks) _ [] (by kernel_rfl)) h
def GC:C:=(.seq (.reg [Qo 2 (.mv (.c (.d (.str []))))] [0])
 (.seq (.seq (.reg [Qm 3 0] [3])
 (.cond (.t 3) (.seq (.reg [Qo 2 (.mv (.c (.d (.str [116,114,117,101]))))] [2])
 .ret)
 .skip))
 (.seq (.reg [Qo 2 (.mv (.c (.d (.str [102,97,108,115,101]))))] [2])
 .ret)))
noncomputable def Bw:Cx:=⟨Tryz.prog,176,Tryz.f176,4,[],[],[.t 2]⟩
theorem GG:Good Bw:=⟨Tryz.func176,by kernel_rfl⟩
theorem Kb:Bw.rs=[.t 2]:=rfl
theorem LY (hl:args.length≤4) (h:Run Bw K [.code GC] (Ar args) E σ):AQ Tryz.prog 176 args σ K:=
 AW (cx:=Bw) (code:=Tryz.f176.body.getD .skip) GG (by kernel_rfl) Tryz.ntmps176 hl (AZ Bw _ (Az GC) _ [] (by kernel_rfl)) h
attribute [go_sem] Q7 ZX eY aZ X4 eZ R5 Kb
end Go.Ab
namespace Go.Ab
open Go.Proofs
theorem QW (b:Bool) (σ:AN):AQ Tryz.prog 176 [.d (.bool b)] σ (fun v σ'=>v= .d (.str (if b then [116,114,117,101] else [102,97,108,115,101]))∧σ'=σ):=by
 refine LY (by simp) ?_
 rw [Ax]
 cases b
 all_goals (repeat' (first|refine Run.ct rfl ?_|((first|refine Run.reg mixed ?_|refine Run.AJ ?_|refine Run.A9 GG (AN.le_refl _) ?_)<;>try simp -implicitDefEqProofs only [go_sem])|fail))
 all_goals rfl
theorem Tr (b:Bool) (σ:AN):AQ Tryz.prog 145 [.d (.bool b)] σ (fun v σ'=>v= .d (.str (if b then [116,114,117,101] else [102,97,108,115,101]))∧σ'=σ):=by
 refine SP (by simp) ?_
 rw [Ax]
 (repeat' (first|refine Run.ct rfl ?_|((first|refine Run.reg mixed ?_|refine Run.AJ ?_|refine Run.A9 LO (AN.le_refl _) ?_|refine AI.det (QW b _) ?_)<;>try simp -implicitDefEqProofs only [go_sem])|fail))
theorem iC (e:Ex) (σ:AN):AQ Tryz.prog 87 [exA e] σ (fun v σ'=>v= .d (.int .i64 ((lvl e:Nat):Int))∧σ'=σ):=by
 refine Yn (by simp) ?_
 rw [Ax]
 obtain ⟨o,n,u,ns,ks,al⟩:=e
 simp only [exA,Ex.A3,AG,AH,lvl]
 by_cases h0:o=7∨o=8∨o=9∨o=10∨o=11∨o=17
 · rw [if_pos h0]
   rcases h0 with rfl|rfl|rfl|rfl|rfl|rfl
   all_goals (repeat' (first|refine Run.ct rfl ?_|((first|refine Run.reg mixed ?_|refine Run.AJ ?_|refine Run.A9 HP (AN.le_refl _) ?_)<;>try simp -implicitDefEqProofs only [AP,go_sem])|fail))
   all_goals rfl
 · rw [if_neg h0]
   simp only [not_or] at h0
   obtain ⟨h1,h2,h3,h4,h5,h6⟩:=h0
   by_cases h13:o=13
   · subst h13
     rw [if_pos rfl]
     (repeat' (first|refine Run.ct rfl ?_|((first|refine Run.reg mixed ?_|refine Run.AJ ?_|refine Run.A9 HP (AN.le_refl _) ?_|refine AI.det (K9 u _) ?_)<;>try simp -implicitDefEqProofs only [AP,go_sem])|fail))
   · rw [if_neg h13]
     by_cases h12:o=12
     · subst h12
       rw [if_pos rfl]
       (repeat' (first|refine Run.ct rfl ?_|((first|refine Run.reg mixed ?_|refine Run.AJ ?_|refine Run.A9 HP (AN.le_refl _) ?_)<;>try simp -implicitDefEqProofs only [AP,go_sem])|fail))
       all_goals rfl
     · rw [if_neg h12]
       (repeat' (first|refine Run.ct rfl ?_|((first|refine Run.reg mixed ?_|refine Run.AJ ?_|refine Run.A9 HP (AN.le_refl _) ?_)<;>try simp -implicitDefEqProofs only [Bt h1,Bt h2,Bt h3,Bt h4,Bt h5,Bt h6,Bt h12,Bt h13,go_sem])|fail))
       all_goals rfl
def plL (u:Int):Nat:=if Ch u=1 then 2 else Ch u
def plR (u:Int):Nat:=if Ch u=1 then 2 else Ch u+1
theorem W1 (u:Int) (σ:AN):AQ Tryz.prog 90 [.d (.int .i64 u)] σ (fun v σ'=>v= .tup [.d (.int .i64 ((plL u:Nat):Int)),.d (.int .i64 ((plR u:Nat):Int))]∧σ'=σ):=by
 refine QO (by simp) ?_
 rw [Ax]
 have hc:=K9 u σ
 have h3:Ch u=1∨Ch u=2∨Ch u=3:=by unfold Ch;split;exact .inr (.inl rfl);split;exact .inr (.inr rfl);exact .inl rfl
 unfold plL plR
 generalize Ch u=z at hc h3 ⊢
 rcases h3 with rfl|rfl|rfl
 all_goals (repeat' (first|refine Run.ct rfl ?_|((first|refine Run.reg mixed ?_|refine Run.AJ ?_|refine Run.A9 J0 (AN.le_refl _) ?_|refine AI.det (hc) ?_)<;>try simp -implicitDefEqProofs only [AP,go_sem])|(refine ⟨fun h=>?_,fun h=>?_⟩<;>first|(cases h;done)|try simp only [h])|fail))
 all_goals rfl
def EC (i:Nat) (e:Ex) (lev:Nat):Prop:=WC 45 [.gp i 0,exA e,.d (.int .i64 (lev:Int))] i (pl lev e (Af e))
theorem eO {i:Nat} {e:Ex} (h:EC i e 0):WC 139 [.gp i 0,exA e] i (Af e):=by
 intro σ0 σ s hH hbu hlen
 have hc:=h σ0 σ s hH hbu (by rw [pl,if_neg (by omega)];exact hlen)
 rw [pl,if_neg (by omega)] at hc
 refine RZ (by simp) ?_
 rw [BP]
 obtain ⟨o,n,u,ns,ks,al⟩:=e
 simp only [exA,Ex.A3,AG,AH] at hc ⊢
 (repeat' (first|refine Run.ct rfl ?_|((first|refine Run.reg mixed ?_|refine Run.AJ ?_|(refine AI.mk rfl hc ?_;rintro _ σ1 ⟨rfl,hb1⟩))<;>try simp -implicitDefEqProofs only [go_sem])|fail))
 exact Run.fin KM rfl (fun _ _ h=>h) (AN.le_refl _) ⟨rfl,hb1⟩
theorem PW {i:Nat} {e:Ex} (h:WC 139 [.gp i 0,exA e] i (Af e)):WC 88 [.gp i 0,exA e] i (GB (Af e)):=by
 intro σ0 σ s hH hbu hlen
 refine K5 (by simp) ?_
 rw [BP]
 have e1:s++GB (Af e)=s++[40]++Af e++[41]:=by simp [GB]
 simp only [GB,AB,AA,AD] at hlen
 rw [e1]
 have hop:=fun σ1 hb1=>h σ0 σ1 (s++[40]) hH hb1 (by simp only [AB,AA,AD];omega)
 generalize Af e=x at hop hlen ⊢
 obtain ⟨o,n,u,ns,ks,al⟩:=e
 simp only [exA,Ex.A3,AG,AH] at hop ⊢
 (repeat' (first|refine Run.ct rfl ?_|((first|refine Run.reg mixed ?_|refine Run.AJ ?_|(refine AI.mk rfl (A7 [40] hbu (by simp only [AB,AD];omega)) ?_;rintro _ σ1 ⟨rfl,hb1⟩))<;>try simp -implicitDefEqProofs only [go_sem])|fail))
 (repeat' (first|refine Run.ct rfl ?_|((first|refine Run.reg mixed ?_|refine Run.AJ ?_|(refine AI.mk rfl (hop σ1 hb1) ?_;rintro _ σ2 ⟨rfl,hb2⟩))<;>try simp -implicitDefEqProofs only [go_sem])|fail))
 (repeat' (first|refine Run.ct rfl ?_|((first|refine Run.reg mixed ?_|refine Run.AJ ?_|(refine AI.mk rfl (A7 [41] hb2 (by simp only [AB,AA,AD];omega)) ?_;rintro _ σ3 ⟨rfl,hb3⟩))<;>try simp -implicitDefEqProofs only [go_sem])|fail))
 exact Run.fin Fi rfl (fun _ _ h=>h) (AN.le_refl _) ⟨rfl,hb3⟩
theorem oE {i:Nat} {ks:List Ex} (h:∀e∈ks,WC 139 [.gp i 0,exA e] i (Af e)):WC 92 [.gp i 0,.d (.sl (ks.map Ex.enc))] i (FU (ks.map Af)):=by
 intro σ0 σ s hH hbu hlen
 refine RX (by simp) ?_
 rw [BP]
 have hsep:=KU (H:=fun _=>True) i (first:=[.gp i 0]) (caps:=[]) (by kernel_rfl:Aw Tryz.prog 139=true) ⟨rfl,rfl⟩ [44,32] Af ks h
 have e1:s++FU (ks.map Af)=s++[40]++Lib.join (ks.map Af) [44,32]++[41]:=by simp [FU,GB,cms]
 simp only [FU,GB,cms,AB,AA,AD] at hlen
 rw [e1]
 (repeat' (first|refine Run.ct rfl ?_|((first|refine Run.reg mixed ?_|refine Run.AJ ?_|(refine AI.mk rfl (A7 [40] hbu (by simp only [AB,AD];omega)) ?_;rintro _ σ1 ⟨rfl,hb1⟩))<;>try simp -implicitDefEqProofs only [go_sem])|fail))
 (repeat' (first|refine Run.ct rfl ?_|((first|refine Run.reg mixed ?_|refine Run.AJ ?_|(refine AI.mk rfl (hsep σ0 σ1 _ hH hb1 (by simp only [AB,AA,AD];omega)) ?_;rintro _ σ2 ⟨rfl,hb2⟩))<;>try simp -implicitDefEqProofs only [go_sem])|fail))
 (repeat' (first|refine Run.ct rfl ?_|((first|refine Run.reg mixed ?_|refine Run.AJ ?_|(refine AI.mk rfl (A7 [41] hb2 (by simp only [AB,AA,AD];omega)) ?_;rintro _ σ3 ⟨rfl,hb3⟩))<;>try simp -implicitDefEqProofs only [go_sem])|fail))
 exact Run.fin KL rfl (fun _ _ h=>h) (AN.le_refl _) ⟨rfl,hb3⟩
theorem AA8 (a b c d e f:AV):Ar [a,b,c,d,e,f]=put 0 a (put 1 b (put 2 c (put 3 d (put 4 e (put 5 f U))))):=by
 funext s;simp only [Ar,put,U]
 match s with|0=>rfl|1=>rfl|2=>rfl|3=>rfl|4=>rfl|5=>rfl|n+6=>simp
theorem ZI {i:Nat} (x y z:Str) {a b:Ex} (ha:WC 139 [.gp i 0,exA a] i (Af a)) (hb:WC 139 [.gp i 0,exA b] i (Af b)):
 WC 141 [.gp i 0,.d (.str x),exA a,.d (.str y),exA b,.d (.str z)] i (x++(Af a++(y++(Af b++z)))):=by
 intro σ0 σ s hH hbu hlen
 refine QU (by simp) ?_
 rw [AA8]
 simp only [AA] at hlen
 have e1:s++(x++(Af a++(y++(Af b++z))))=s++x++Af a++y++Af b++z:=by simp only [AS]
 rw [e1]
 have ha:=fun σ1 hb1=>ha σ0 σ1 (s++x) hH hb1 (by simp only [AA];omega)
 have hb:=fun σ1 hb1=>hb σ0 σ1 (s++x++Af a++y) hH hb1 (by simp only [AA];omega)
 generalize Af a=ta at ha hb hlen ⊢
 generalize Af b=tb at hb hlen ⊢
 obtain ⟨o,n,u,ns,ks,al⟩:=a
 obtain ⟨o',n',u',ns',ks',al'⟩:=b
 simp only [exA,Ex.A3,AG,AH] at ha hb ⊢
 (repeat' (first|refine Run.ct rfl ?_|((first|refine Run.reg mixed ?_|refine Run.AJ ?_|(refine AI.mk rfl (A7 x hbu (by omega)) ?_;rintro _ σ1 ⟨rfl,hb1⟩))<;>try simp -implicitDefEqProofs only [go_sem])|fail))
 (repeat' (first|refine Run.ct rfl ?_|((first|refine Run.reg mixed ?_|refine Run.AJ ?_|(refine AI.mk rfl (ha σ1 hb1) ?_;rintro _ σ2 ⟨rfl,hb2⟩))<;>try simp -implicitDefEqProofs only [go_sem])|fail))
 (repeat' (first|refine Run.ct rfl ?_|((first|refine Run.reg mixed ?_|refine Run.AJ ?_|(refine AI.mk rfl (A7 y hb2 (by simp only [AA];omega)) ?_;rintro _ σ3 ⟨rfl,hb3⟩))<;>try simp -implicitDefEqProofs only [go_sem])|fail))
 (repeat' (first|refine Run.ct rfl ?_|((first|refine Run.reg mixed ?_|refine Run.AJ ?_|(refine AI.mk rfl (hb σ3 hb3) ?_;rintro _ σ4 ⟨rfl,hb4⟩))<;>try simp -implicitDefEqProofs only [go_sem])|fail))
 (repeat' (first|refine Run.ct rfl ?_|((first|refine Run.reg mixed ?_|refine Run.AJ ?_|(refine AI.mk rfl (A7 z hb4 (by simp only [AA];omega)) ?_;rintro _ σ5 ⟨rfl,hb5⟩))<;>try simp -implicitDefEqProofs only [go_sem])|fail))
 exact Run.fin J3 rfl (fun _ _ h=>h) (AN.le_refl _) ⟨rfl,hb5⟩
end Go.Ab
