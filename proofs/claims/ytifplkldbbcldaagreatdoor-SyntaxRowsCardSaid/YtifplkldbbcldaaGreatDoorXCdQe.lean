/- The compact codes of the functions of this seat, computed out of the translation. Conditions: none. -/
import Derived.Test.YtifplkldbbcldaaGreatDoorProg
import Derived.KernelRfl
import Derived.Test.YtifplkldbbcldaaGreatDoorXPh
set_option linter.unusedSimpArgs false
set_option linter.unusedVariables false
set_option maxRecDepth 4000
set_option maxHeartbeats 8000000
namespace Go.Ab
open Go.Proofs
variable {args:List AV} {σ:AN} {K:AV→AN→Prop}
def Tk:C:=(.seq (.reg [Qo 4 (.mv (.c (.d (.bool false))))] [0,1])
 (.seq (.reg [Qm 16 0,
 Qo 17 (.call 12 [(.t 16)]),
 Qm 15 17,
 Qo 18 (.ext (.t 15) 0),
 Qo 19 (.ext (.t 15) 1),
 Qo 20 (.ext (.t 15) 2),
 Qo 5 (.al [.AX,.AX] false),
 ⟨none,.st (.t 5) (.t 18) 2,none⟩,
 Qm 6 19,
 Qm 7 20] [0,1,5,7])
 (.seq (.reg [Qm 22 1,
 Qo 23 (.call 12 [(.t 22)]),
 Qm 21 23,
 Qo 24 (.ext (.t 21) 0),
 Qo 25 (.ext (.t 21) 1),
 Qo 26 (.ext (.t 21) 2),
 Qo 8 (.al [.AX,.AX] false),
 ⟨none,.st (.t 8) (.t 24) 2,none⟩,
 Qm 9 25,
 Qm 10 26] [0,1,5,7,8,10])
 (.seq (.seq (.reg [Qm 27 7,
 Qo 28 (.bin .neq (.t 27) (.c (.d (.int .i64 0)))),
 Qm 29 28,
 ⟨some 30,.mv (.t 10),some (29,false)⟩,
 ⟨some 31,.bin .neq (.t 30) (.c (.d (.int .i64 0))),some (29,false)⟩,
 Qo 32 (.pick (.t 29) (.c (.d (.bool true))) (.t 31)),
 Qm 33 32,
 ⟨some 34,.mv (.t 0),some (33,false)⟩,
 ⟨some 35,.J9 (.t 34),some (33,false)⟩,
 ⟨some 36,.mv (.t 1),some (33,false)⟩,
 ⟨some 37,.J9 (.t 36),some (33,false)⟩,
 ⟨some 38,.bin .add (.t 35) (.t 37),some (33,false)⟩,
 ⟨some 39,.bin .add (.t 38) (.c (.d (.int .i64 1))),some (33,false)⟩,
 ⟨some 40,.bin .gtr (.t 39) (.c (.d (.int .i64 16384))),some (33,false)⟩,
 Qo 41 (.pick (.t 33) (.c (.d (.bool true))) (.t 40))] [0,1,5,8,41])
 (.cond (.t 41) (.seq (.reg [Qo 42 (.call 15 []),
 Qm 4 42] [4])
 .ret)
 .skip))
 (.seq (.reg [Qo 11 (.al [.AX,.AX] false),
 Qo 43 (.fld (.t 5) 0),
 Qo 44 (.ldl (.t 43) none),
 Qo 46 (.fld (.t 8) 0),
 Qo 47 (.ldl (.t 46) none),
 Qo 49 (.fld (.t 5) 1),
 Qo 50 (.ldl (.t 49) none),
 Qo 52 (.fld (.t 8) 1),
 Qo 53 (.ldl (.t 52) none),
 Qo 45 (.app 61 3 64 (.c .AX) (.t 44)),
 Qo 48 (.app 61 3 64 (.t 45) (.t 47)),
 Qo 51 (.app 66 8 144 (.c .AX) (.t 50)),
 Qo 54 (.app 66 8 144 (.t 51) (.t 53)),
 Qo 55 (.bld [.AX,.AX] [(0,1,(.t 48)),(1,1,(.t 54))]),
 ⟨none,.st (.t 11) (.t 55) 2,none⟩] [0,1,11])
 (.seq (.reg [Qm 57 0,
 Qo 58 (.bin .add (.t 57) (.c (.d (.str [10])))),
 Qm 59 1,
 Qo 60 (.bin .add (.t 58) (.t 59)),
 Qo 61 (.call 12 [(.t 60)]),
 Qm 56 61,
 Qo 62 (.ext (.t 56) 0),
 Qo 63 (.ext (.t 56) 1),
 Qo 64 (.ext (.t 56) 2),
 Qo 12 (.al [.AX,.AX] false),
 ⟨none,.st (.t 12) (.t 62) 2,none⟩,
 Qm 13 63,
 Qm 14 64] [11,12,14])
 (.seq (.seq (.reg [Qo 65 (.ldl (.t 11) (some 2)),
 Qo 66 (.call 20 [(.t 65)]),
 Qo 67 (.un .not (.t 66))] [11,12,14,67])
 (.cond (.t 67) (.seq (.reg [Qm 68 14,
 Qo 69 (.bin .eql (.t 68) (.c (.d (.int .i64 9)))),
 Qm 70 69,
 ⟨some 71,.call 15 [],some (70,true)⟩,
 Qo 72 (.pick (.t 70) (.t 71) (.c (.d (.bool false)))),
 Qm 4 72] [4])
 .ret)
 .skip))
 (.seq (.reg [Qm 73 14,
 Qo 74 (.bin .eql (.t 73) (.c (.d (.int .i64 0)))),
 Qm 75 74,
 ⟨some 76,.ldl (.t 12) (some 2),some (75,true)⟩,
 ⟨some 77,.ldl (.t 11) (some 2),some (75,true)⟩,
 ⟨some 78,.call 14 [(.t 76),(.t 77)],some (75,true)⟩,
 Qo 79 (.pick (.t 75) (.t 78) (.c (.d (.bool false)))),
 Qm 80 79,
 ⟨some 81,.call 15 [],some (80,true)⟩,
 Qo 82 (.pick (.t 80) (.t 81) (.c (.d (.bool false)))),
 Qm 4 82] [4])
 .ret))))))))
def UJ:List (List Nat×PT):=[([0,1],.done),([0,1,5,7],.done),([0,1,5,7,8,10],.done),([0,1,5,8,41],.done),([4],.done),([0,1,11],(.lay 13 (.one 0 (.one 1 (.one 3 (.one 4 (.one 6 (.one 7 (.one 9 (.one 10 (.one 2 (.one 5 (.one 8 (.one 11 (.one 12 (.one 14 .done)))))))))))))))),([11,12,14],.done),([11,12,14,67],.done),([4],.done),([4],.done)]
noncomputable def Eo:Cx:=⟨Tryz.prog,9,Tryz.f9,83,[300044,300047,300050,300053,300065,300076,300077],[],[.t 4]⟩
theorem Dk:Good Eo:=⟨Tryz.func9,by kernel_rfl⟩
theorem TA:Eo.rs=[.t 4]:=rfl
theorem Tt (hl:args.length≤83) (h:Run Eo K [.code Tk] (Aq args) E σ):AQ Tryz.prog 9 args σ K:=
 AW (cx:=Eo) (code:=Tryz.f9.body.getD .skip) Dk (by kernel_rfl) Tryz.ntmps9 hl (AZ Eo _ UJ _ [] (by kernel_rfl)) h
def ZB:C:=(.seq (.seq (.reg [Qm 103 9,
 Qo 104 (.fld (.t 6) 2),
 Qo 105 (.ldl (.t 104) none),
 Qm 106 8,
 Qo 107 (.ix (.t 105) (.t 106) 2),
 Qo 108 (.fld (.t 107) 1),
 Qo 109 (.ld (.t 108) none),
 Qo 110 (.len (.t 109)),
 Qo 111 (.bin .lss (.t 103) (.t 110))] [2,3,5,6,7,8,9,111])
 (.cond (.t 111) .skip
 (.exit 4)))
 (.seq (.block 5 (.seq (.reg [Qo 114 (.fld (.t 6) 2),
 Qo 115 (.ldl (.t 114) none),
 Qm 116 8,
 Qo 117 (.ix (.t 115) (.t 116) 2),
 Qo 118 (.fld (.t 117) 1),
 Qo 119 (.ld (.t 118) none),
 Qm 120 9,
 Qo 121 (.ix (.t 119) (.t 120) 3),
 Qo 122 (.ld (.t 121) (some 3)),
 Qo 123 (.fld (.t 7) 2),
 Qo 124 (.ldl (.t 123) none),
 Qm 125 8,
 Qo 126 (.ix (.t 124) (.t 125) 2),
 Qo 127 (.fld (.t 126) 1),
 Qo 128 (.ld (.t 127) none),
 Qm 129 9,
 Qo 130 (.ix (.t 128) (.t 129) 3),
 Qo 131 (.ld (.t 130) (some 3)),
 Qo 132 (.call 37 [(.t 122),(.t 131)]),
 Qo 133 (.un .not (.t 132))] [2,3,5,6,7,8,9,133])
 (.cond (.t 133) (.seq (.reg [Qo 4 (.mv (.c (.d (.bool false))))] [4])
 .ret)
 .skip)))
 (.reg [Qm 112 9,
 Qo 113 (.bin .add (.t 112) (.c (.d (.int .i64 1)))),
 Qm 9 113] [2,3,5,6,7,8,9])))
def ZC:C:=(.seq (.seq (.reg [Qm 66 8,
 Qo 67 (.fld (.t 6) 2),
 Qo 68 (.ldl (.t 67) none),
 Qo 69 (.len (.t 68)),
 Qo 70 (.bin .lss (.t 66) (.t 69))] [2,3,5,6,7,8,70])
 (.cond (.t 70) .skip
 (.exit 2)))
 (.seq (.block 3 (.seq (.seq (.reg [Qo 73 (.fld (.t 6) 2),
 Qo 74 (.ldl (.t 73) none),
 Qm 75 8,
 Qo 76 (.ix (.t 74) (.t 75) 2),
 Qo 77 (.fld (.t 76) 0),
 Qo 78 (.ld (.t 77) none),
 Qo 79 (.fld (.t 7) 2),
 Qo 80 (.ldl (.t 79) none),
 Qm 81 8,
 Qo 82 (.ix (.t 80) (.t 81) 2),
 Qo 83 (.fld (.t 82) 0),
 Qo 84 (.ld (.t 83) none),
 Qo 85 (.bin .neq (.t 78) (.t 84)),
 Qm 86 85,
 ⟨some 87,.fld (.t 6) 2,some (86,false)⟩,
 ⟨some 88,.ldl (.t 87) none,some (86,false)⟩,
 ⟨some 89,.mv (.t 8),some (86,false)⟩,
 ⟨some 90,.ix (.t 88) (.t 89) 2,some (86,false)⟩,
 ⟨some 91,.fld (.t 90) 1,some (86,false)⟩,
 ⟨some 92,.ld (.t 91) none,some (86,false)⟩,
 ⟨some 93,.len (.t 92),some (86,false)⟩,
 ⟨some 94,.fld (.t 7) 2,some (86,false)⟩,
 ⟨some 95,.ldl (.t 94) none,some (86,false)⟩,
 ⟨some 96,.mv (.t 8),some (86,false)⟩,
 ⟨some 97,.ix (.t 95) (.t 96) 2,some (86,false)⟩,
 ⟨some 98,.fld (.t 97) 1,some (86,false)⟩,
 ⟨some 99,.ld (.t 98) none,some (86,false)⟩,
 ⟨some 100,.len (.t 99),some (86,false)⟩,
 ⟨some 101,.bin .neq (.t 93) (.t 100),some (86,false)⟩,
 Qo 102 (.pick (.t 86) (.c (.d (.bool true))) (.t 101))] [2,3,5,6,7,8,102])
 (.cond (.t 102) (.seq (.reg [Qo 4 (.mv (.c (.d (.bool false))))] [4])
 .ret)
 .skip))
 (.seq (.reg [Qo 9 (.mv (.c (.d (.int .i64 0))))] [2,3,5,6,7,8,9])
 (.block 4 (.loop ZB)))))
 (.reg [Qm 71 8,
 Qo 72 (.bin .add (.t 71) (.c (.d (.int .i64 1)))),
 Qm 8 72] [2,3,5,6,7,8])))
def ZD:C:=(.seq (.seq (.reg [Qm 27 5,
 Qo 28 (.fld (.t 2) 0),
 Qo 29 (.ldl (.t 28) none),
 Qo 30 (.len (.t 29)),
 Qo 31 (.bin .lss (.t 27) (.t 30))] [2,3,5,31])
 (.cond (.t 31) .skip
 (.exit 0)))
 (.seq (.block 1 (.seq (.SD (.one (Qo 6 (.al [(.d (.str [])),.AX,.AX] false))
 (.one (Qo 7 (.al [(.d (.str [])),.AX,.AX] false))
 (.one (Qo 34 (.fld (.t 2) 0))
 (.one (Qo 35 (.ldl (.t 34) none))
 (.one (Qm 36 5)
 (.one (Qo 37 (.ix (.t 35) (.t 36) 3))
 (.one (Qo 38 (.ld (.t 37) (some 3)))
 (.one (Qo 39 (.fld (.t 3) 0))
 (.one (Qm 41 5)
 (.alt (Qo 40 (.ldl (.t 39) none))
 (.one (Qo 42 (.ix (.t 40) (.t 41) 3))
 (.alt (Qo 43 (.ld (.t 42) (some 3)))
 (.one ⟨none,.st (.t 6) (.t 38) 3,none⟩
 (.one ⟨none,.st (.t 7) (.t 43) 3,none⟩
 .done))
 (.alt ⟨none,.st (.t 6) (.t 38) 3,none⟩
 (.one (Qo 43 (.ld (.t 42) (some 3)))
 (.one ⟨none,.st (.t 7) (.t 43) 3,none⟩
 .done))
 .done)))
 (.alt ⟨none,.st (.t 6) (.t 38) 3,none⟩
 (.one (Qo 40 (.ldl (.t 39) none))
 (.one (Qo 42 (.ix (.t 40) (.t 41) 3))
 (.one (Qo 43 (.ld (.t 42) (some 3)))
 (.one ⟨none,.st (.t 7) (.t 43) 3,none⟩
 .done))))
 .done))))))))))) [2,3,5,6,7])
 (.seq (.seq (.reg [Qo 44 (.fld (.t 6) 0),
 Qo 45 (.ldl (.t 44) none),
 Qo 46 (.fld (.t 7) 0),
 Qo 47 (.ldl (.t 46) none),
 Qo 48 (.bin .neq (.t 45) (.t 47)),
 Qm 49 48,
 ⟨some 50,.fld (.t 6) 1,some (49,false)⟩,
 ⟨some 51,.ldl (.t 50) none,some (49,false)⟩,
 ⟨some 52,.fld (.t 7) 1,some (49,false)⟩,
 ⟨some 53,.ldl (.t 52) none,some (49,false)⟩,
 ⟨some 54,.call 36 [(.t 51),(.t 53)],some (49,false)⟩,
 ⟨some 55,.un .not (.t 54),some (49,false)⟩,
 Qo 56 (.pick (.t 49) (.c (.d (.bool true))) (.t 55)),
 Qm 57 56,
 ⟨some 58,.fld (.t 6) 2,some (57,false)⟩,
 ⟨some 59,.ldl (.t 58) none,some (57,false)⟩,
 ⟨some 60,.len (.t 59),some (57,false)⟩,
 ⟨some 61,.fld (.t 7) 2,some (57,false)⟩,
 ⟨some 62,.ldl (.t 61) none,some (57,false)⟩,
 ⟨some 63,.len (.t 62),some (57,false)⟩,
 ⟨some 64,.bin .neq (.t 60) (.t 63),some (57,false)⟩,
 Qo 65 (.pick (.t 57) (.c (.d (.bool true))) (.t 64))] [2,3,5,6,7,65])
 (.cond (.t 65) (.seq (.reg [Qo 4 (.mv (.c (.d (.bool false))))] [4])
 .ret)
 .skip))
 (.seq (.reg [Qo 8 (.mv (.c (.d (.int .i64 0))))] [2,3,5,6,7,8])
 (.block 2 (.loop ZC))))))
 (.reg [Qm 32 5,
 Qo 33 (.bin .add (.t 32) (.c (.d (.int .i64 1)))),
 Qm 5 33] [2,3,5])))
def ZE:C:=(.seq (.seq (.reg [Qm 134 10,
 Qo 135 (.fld (.t 2) 1),
 Qo 136 (.ldl (.t 135) none),
 Qo 137 (.len (.t 136)),
 Qo 138 (.bin .lss (.t 134) (.t 137))] [2,3,10,138])
 (.cond (.t 138) .skip
 (.exit 6)))
 (.seq (.block 7 (.seq (.reg [Qo 141 (.fld (.t 2) 1),
 Qo 142 (.ldl (.t 141) none),
 Qm 143 10,
 Qo 144 (.ix (.t 142) (.t 143) 8),
 Qo 145 (.fld (.t 144) 0),
 Qo 146 (.ld (.t 145) none),
 Qo 147 (.fld (.t 3) 1),
 Qo 148 (.ldl (.t 147) none),
 Qm 149 10,
 Qo 150 (.ix (.t 148) (.t 149) 8),
 Qo 151 (.fld (.t 150) 0),
 Qo 152 (.ld (.t 151) none),
 Qo 153 (.bin .neq (.t 146) (.t 152)),
 Qm 154 153,
 ⟨some 155,.fld (.t 2) 1,some (154,false)⟩,
 ⟨some 156,.ldl (.t 155) none,some (154,false)⟩,
 ⟨some 157,.mv (.t 10),some (154,false)⟩,
 ⟨some 158,.ix (.t 156) (.t 157) 8,some (154,false)⟩,
 ⟨some 159,.fld (.t 158) 1,some (154,false)⟩,
 ⟨some 160,.ld (.t 159) none,some (154,false)⟩,
 ⟨some 161,.fld (.t 3) 1,some (154,false)⟩,
 ⟨some 162,.ldl (.t 161) none,some (154,false)⟩,
 ⟨some 163,.mv (.t 10),some (154,false)⟩,
 ⟨some 164,.ix (.t 162) (.t 163) 8,some (154,false)⟩,
 ⟨some 165,.fld (.t 164) 1,some (154,false)⟩,
 ⟨some 166,.ld (.t 165) none,some (154,false)⟩,
 ⟨some 167,.call 36 [(.t 160),(.t 166)],some (154,false)⟩,
 ⟨some 168,.un .not (.t 167),some (154,false)⟩,
 Qo 169 (.pick (.t 154) (.c (.d (.bool true))) (.t 168)),
 Qm 170 169,
 ⟨some 171,.fld (.t 2) 1,some (170,false)⟩,
 ⟨some 172,.ldl (.t 171) none,some (170,false)⟩,
 ⟨some 173,.mv (.t 10),some (170,false)⟩,
 ⟨some 174,.ix (.t 172) (.t 173) 8,some (170,false)⟩,
 ⟨some 175,.fld (.t 174) 2,some (170,false)⟩,
 ⟨some 176,.ld (.t 175) (some 6),some (170,false)⟩,
 ⟨some 177,.fld (.t 3) 1,some (170,false)⟩,
 ⟨some 178,.ldl (.t 177) none,some (170,false)⟩,
 ⟨some 179,.mv (.t 10),some (170,false)⟩,
 ⟨some 180,.ix (.t 178) (.t 179) 8,some (170,false)⟩,
 ⟨some 181,.fld (.t 180) 2,some (170,false)⟩,
 ⟨some 182,.ld (.t 181) (some 6),some (170,false)⟩,
 ⟨some 183,.call 38 [(.t 176),(.t 182)],some (170,false)⟩,
 ⟨some 184,.un .not (.t 183),some (170,false)⟩,
 Qo 185 (.pick (.t 170) (.c (.d (.bool true))) (.t 184))] [2,3,10,185])
 (.cond (.t 185) (.seq (.reg [Qo 4 (.mv (.c (.d (.bool false))))] [4])
 .ret)
 .skip)))
 (.reg [Qm 139 10,
 Qo 140 (.bin .add (.t 139) (.c (.d (.int .i64 1)))),
 Qm 10 140] [2,3,10])))
def gE:C:=(.seq (.reg [Qo 2 (.box (.t 0) false),
 Qo 3 (.box (.t 1) false),
 Qo 4 (.mv (.c (.d (.bool false))))] [2,3])
 (.seq (.seq (.reg [Qo 11 (.fld (.t 2) 0),
 Qo 12 (.ldl (.t 11) none),
 Qo 13 (.len (.t 12)),
 Qo 14 (.fld (.t 3) 0),
 Qo 15 (.ldl (.t 14) none),
 Qo 16 (.len (.t 15)),
 Qo 17 (.bin .neq (.t 13) (.t 16)),
 Qm 18 17,
 ⟨some 19,.fld (.t 2) 1,some (18,false)⟩,
 ⟨some 20,.ldl (.t 19) none,some (18,false)⟩,
 ⟨some 21,.len (.t 20),some (18,false)⟩,
 ⟨some 22,.fld (.t 3) 1,some (18,false)⟩,
 ⟨some 23,.ldl (.t 22) none,some (18,false)⟩,
 ⟨some 24,.len (.t 23),some (18,false)⟩,
 ⟨some 25,.bin .neq (.t 21) (.t 24),some (18,false)⟩,
 Qo 26 (.pick (.t 18) (.c (.d (.bool true))) (.t 25))] [2,3,26])
 (.cond (.t 26) (.seq (.reg [Qo 4 (.mv (.c (.d (.bool false))))] [4])
 .ret)
 .skip))
 (.seq (.seq (.reg [Qo 5 (.mv (.c (.d (.int .i64 0))))] [2,3,5])
 (.block 0 (.loop ZD)))
 (.seq (.seq (.reg [Qo 10 (.mv (.c (.d (.int .i64 0))))] [2,3,10])
 (.block 6 (.loop ZE)))
 (.seq (.reg [Qo 4 (.mv (.c (.d (.bool true))))] [4])
 .ret)))))
def jN:List (List Nat×PT):=[([2,3],.done),([2,3,26],.done),([4],.done),([2,3,5],.done),([2,3,5,31],.done),([2,3,5,6,7],(.lay 10 (.lay 11 (.one 0 (.one 1 (.one 2 (.one 3 (.one 4 (.one 5 (.one 7 (.alt 6 (.one 8 (.alt 9 (.one 12 (.one 13 .done)) (.alt 12 (.one 9 (.one 13 .done)) .done))) (.alt 12 (.one 6 (.one 8 (.one 9 (.one 13 .done)))) .done)))))))))))),([2,3,5,6,7,65],.done),([4],.done),([2,3,5,6,7,8],.done),([2,3,5,6,7,8,70],.done),([2,3,5,6,7,8,102],.done),([4],.done),([2,3,5,6,7,8,9],.done),([2,3,5,6,7,8,9,111],.done),([2,3,5,6,7,8,9,133],.done),([4],.done),([2,3,5,6,7,8,9],.done),([2,3,5,6,7,8],.done),([2,3,5],.done),([2,3,10],.done),([2,3,10,138],.done),([2,3,10,185],.done),([4],.done),([2,3,10],.done),([4],.done)]
noncomputable def NQ:Cx:=⟨Tryz.prog,14,Tryz.f14,186,[300012,300015,300020,300023,300029,300035,300040,300045,300047,300051,300053,300059,300062,300068,300074,300080,300088,300095,300105,300115,300124,300136,300142,300148,300156,300162,300172,300178],[],[.t 4]⟩
theorem Dl:Good NQ:=⟨Tryz.func14,by kernel_rfl⟩
theorem eT:NQ.rs=[.t 4]:=rfl
theorem hO (hl:args.length≤186) (h:Run NQ K [.code gE] (Aq args) E σ):AQ Tryz.prog 14 args σ K:=
 AW (cx:=NQ) (code:=Tryz.f14.body.getD .skip) Dl (by kernel_rfl) Tryz.ntmps14 hl (AZ NQ _ jN _ [] (by kernel_rfl)) h
def TQ:C:=(.seq (.reg [Qo 0 (.mv (.c (.d (.bool false))))] [])
 (.seq (.reg [Qo 5 (.call 12 [(.c (.d (.str [102,117,110,32,102,40,120,41,61,105,102,32,120,60,61,48,32,116,104,101,110,40,41,32,101,108,115,101,32,102,40,120,45,49,41,59])))]),
 Qm 4 5,
 Qo 6 (.ext (.t 4) 0),
 Qo 7 (.ext (.t 4) 1),
 Qo 8 (.ext (.t 4) 2),
 Qo 1 (.al [.AX,.AX] false),
 ⟨none,.st (.t 1) (.t 6) 2,none⟩,
 Qm 2 7,
 Qm 3 8] [1,3])
 (.seq (.reg [Qm 9 3,
 Qo 10 (.bin .eql (.t 9) (.c (.d (.int .i64 0)))),
 Qm 11 10,
 ⟨some 12,.fld (.t 1) 1,some (11,true)⟩,
 ⟨some 13,.ldl (.t 12) none,some (11,true)⟩,
 ⟨some 14,.len (.t 13),some (11,true)⟩,
 ⟨some 15,.bin .eql (.t 14) (.c (.d (.int .i64 1))),some (11,true)⟩,
 Qo 16 (.pick (.t 11) (.t 15) (.c (.d (.bool false)))),
 Qm 17 16,
 ⟨some 18,.ldl (.t 1) (some 2),some (17,true)⟩,
 ⟨some 19,.call 17 [(.t 18)],some (17,true)⟩,
 ⟨some 20,.bin .eql (.t 19) (.c (.d (.str [102,117,110,32,102,40,120,41,32,61,32,105,102,32,120,32,60,61,32,48,32,116,104,101,110,32,40,41,32,101,108,115,101,32,102,40,120,32,45,32,49,41,59,10]))),some (17,true)⟩,
 Qo 21 (.pick (.t 17) (.t 20) (.c (.d (.bool false)))),
 Qm 0 21] [0])
 .ret)))
noncomputable def Hz:Cx:=⟨Tryz.prog,15,Tryz.f15,22,[300013,300018],[],[.t 0]⟩
theorem T4:Good Hz:=⟨Tryz.func15,by kernel_rfl⟩
theorem YO:Hz.rs=[.t 0]:=rfl
theorem ZM (hl:args.length≤22) (h:Run Hz K [.code TQ] (Aq args) E σ):AQ Tryz.prog 15 args σ K:=
 AW (cx:=Hz) (code:=Tryz.f15.body.getD .skip) T4 (by kernel_rfl) Tryz.ntmps15 hl (AZ Hz _ (Av TQ) _ [] (by kernel_rfl)) h
def U0:C:=(.seq (.seq (.reg [Qm 11 5,
 Qm 12 0,
 Qo 13 (.len (.t 12)),
 Qo 14 (.bin .lss (.t 11) (.t 13))] [0,1,5,14])
 (.cond (.t 14) .skip
 (.exit 0)))
 (.seq (.block 1 (.seq (.reg [Qm 17 0,
 Qm 18 5,
 Qo 19 (.ix (.t 17) (.t 18) 1),
 Qo 20 (.ld (.t 19) none),
 Qm 21 1,
 Qm 22 5,
 Qo 23 (.ix (.t 21) (.t 22) 1),
 Qo 24 (.ld (.t 23) none),
 Qo 25 (.bin .neq (.t 20) (.t 24))] [0,1,5,25])
 (.cond (.t 25) (.seq (.reg [Qo 4 (.mv (.c (.d (.bool false))))] [4])
 .ret)
 .skip)))
 (.reg [Qm 15 5,
 Qo 16 (.bin .add (.t 15) (.c (.d (.int .i64 1)))),
 Qm 5 16] [0,1,5])))
def RT:C:=(.seq (.reg [Qo 4 (.mv (.c (.d (.bool false))))] [0,1])
 (.seq (.seq (.reg [Qm 6 0,
 Qo 7 (.len (.t 6)),
 Qm 8 1,
 Qo 9 (.len (.t 8)),
 Qo 10 (.bin .neq (.t 7) (.t 9))] [0,1,10])
 (.cond (.t 10) (.seq (.reg [Qo 4 (.mv (.c (.d (.bool false))))] [4])
 .ret)
 .skip))
 (.seq (.seq (.reg [Qo 5 (.mv (.c (.d (.int .i64 0))))] [0,1,5])
 (.block 0 (.loop U0)))
 (.seq (.reg [Qo 4 (.mv (.c (.d (.bool true))))] [4])
 .ret))))
noncomputable def HO:Cx:=⟨Tryz.prog,36,Tryz.f36,26,[],[],[.t 4]⟩
theorem JE:Good HO:=⟨Tryz.func36,by kernel_rfl⟩
theorem Wd:HO.rs=[.t 4]:=rfl
theorem Xm (hl:args.length≤26) (h:Run HO K [.code RT] (Aq args) E σ):AQ Tryz.prog 36 args σ K:=
 AW (cx:=HO) (code:=Tryz.f36.body.getD .skip) JE (by kernel_rfl) Tryz.ntmps36 hl (AZ HO _ (Av RT) _ [] (by kernel_rfl)) h
def VN:C:=(.seq (.seq (.reg [Qm 27 5,
 Qo 28 (.fld (.t 2) 2),
 Qo 29 (.ldl (.t 28) none),
 Qo 30 (.len (.t 29)),
 Qo 31 (.bin .lss (.t 27) (.t 30))] [2,3,5,31])
 (.cond (.t 31) .skip
 (.exit 0)))
 (.seq (.block 1 (.seq (.reg [Qo 34 (.fld (.t 2) 2),
 Qo 35 (.ldl (.t 34) none),
 Qm 36 5,
 Qo 37 (.ix (.t 35) (.t 36) 3),
 Qo 38 (.ld (.t 37) (some 3)),
 Qo 39 (.fld (.t 3) 2),
 Qo 40 (.ldl (.t 39) none),
 Qm 41 5,
 Qo 42 (.ix (.t 40) (.t 41) 3),
 Qo 43 (.ld (.t 42) (some 3)),
 Qo 44 (.call 37 [(.t 38),(.t 43)]),
 Qo 45 (.un .not (.t 44))] [2,3,5,45])
 (.cond (.t 45) (.seq (.reg [Qo 4 (.mv (.c (.d (.bool false))))] [4])
 .ret)
 .skip)))
 (.reg [Qm 32 5,
 Qo 33 (.bin .add (.t 32) (.c (.d (.int .i64 1)))),
 Qm 5 33] [2,3,5])))
def TU:C:=(.seq (.reg [Qo 2 (.box (.t 0) false),
 Qo 3 (.box (.t 1) false),
 Qo 4 (.mv (.c (.d (.bool false))))] [2,3])
 (.seq (.seq (.reg [Qo 6 (.fld (.t 2) 0),
 Qo 7 (.ldl (.t 6) none),
 Qo 8 (.fld (.t 3) 0),
 Qo 9 (.ldl (.t 8) none),
 Qo 10 (.bin .neq (.t 7) (.t 9)),
 Qm 11 10,
 ⟨some 12,.fld (.t 2) 1,some (11,false)⟩,
 ⟨some 13,.ldl (.t 12) none,some (11,false)⟩,
 ⟨some 14,.fld (.t 3) 1,some (11,false)⟩,
 ⟨some 15,.ldl (.t 14) none,some (11,false)⟩,
 ⟨some 16,.bin .neq (.t 13) (.t 15),some (11,false)⟩,
 Qo 17 (.pick (.t 11) (.c (.d (.bool true))) (.t 16)),
 Qm 18 17,
 ⟨some 19,.fld (.t 2) 2,some (18,false)⟩,
 ⟨some 20,.ldl (.t 19) none,some (18,false)⟩,
 ⟨some 21,.len (.t 20),some (18,false)⟩,
 ⟨some 22,.fld (.t 3) 2,some (18,false)⟩,
 ⟨some 23,.ldl (.t 22) none,some (18,false)⟩,
 ⟨some 24,.len (.t 23),some (18,false)⟩,
 ⟨some 25,.bin .neq (.t 21) (.t 24),some (18,false)⟩,
 Qo 26 (.pick (.t 18) (.c (.d (.bool true))) (.t 25))] [2,3,26])
 (.cond (.t 26) (.seq (.reg [Qo 4 (.mv (.c (.d (.bool false))))] [4])
 .ret)
 .skip))
 (.seq (.seq (.reg [Qo 5 (.mv (.c (.d (.int .i64 0))))] [2,3,5])
 (.block 0 (.loop VN)))
 (.seq (.reg [Qo 4 (.mv (.c (.d (.bool true))))] [4])
 .ret))))
noncomputable def IB:Cx:=⟨Tryz.prog,37,Tryz.f37,46,[300007,300009,300013,300015,300020,300023,300029,300035,300040],[],[.t 4]⟩
theorem G1:Good IB:=⟨Tryz.func37,by kernel_rfl⟩
theorem YR:IB.rs=[.t 4]:=rfl
theorem ZO (hl:args.length≤46) (h:Run IB K [.code TU] (Aq args) E σ):AQ Tryz.prog 37 args σ K:=
 AW (cx:=IB) (code:=Tryz.f37.body.getD .skip) G1 (by kernel_rfl) Tryz.ntmps37 hl (AZ IB _ (Av TU) _ [] (by kernel_rfl)) h
def VL:C:=(.seq (.seq (.reg [Qm 52 5,
 Qo 53 (.fld (.t 2) 4),
 Qo 54 (.ldl (.t 53) none),
 Qo 55 (.len (.t 54)),
 Qo 56 (.bin .lss (.t 52) (.t 55))] [2,3,5,56])
 (.cond (.t 56) .skip
 (.exit 0)))
 (.seq (.block 1 (.seq (.reg [Qo 59 (.fld (.t 2) 4),
 Qo 60 (.ldl (.t 59) none),
 Qm 61 5,
 Qo 62 (.ix (.t 60) (.t 61) 6),
 Qo 63 (.ld (.t 62) (some 6)),
 Qo 64 (.fld (.t 3) 4),
 Qo 65 (.ldl (.t 64) none),
 Qm 66 5,
 Qo 67 (.ix (.t 65) (.t 66) 6),
 Qo 68 (.ld (.t 67) (some 6)),
 Qo 69 (.call 38 [(.t 63),(.t 68)]),
 Qo 70 (.un .not (.t 69))] [2,3,5,70])
 (.cond (.t 70) (.seq (.reg [Qo 4 (.mv (.c (.d (.bool false))))] [4])
 .ret)
 .skip)))
 (.reg [Qm 57 5,
 Qo 58 (.bin .add (.t 57) (.c (.d (.int .i64 1)))),
 Qm 5 58] [2,3,5])))
def VM:C:=(.seq (.seq (.reg [Qm 71 6,
 Qo 72 (.fld (.t 2) 5),
 Qo 73 (.ldl (.t 72) none),
 Qo 74 (.len (.t 73)),
 Qo 75 (.bin .lss (.t 71) (.t 74))] [2,3,6,75])
 (.cond (.t 75) .skip
 (.exit 2)))
 (.seq (.block 3 (.seq (.reg [Qo 78 (.fld (.t 2) 5),
 Qo 79 (.ldl (.t 78) none),
 Qm 80 6,
 Qo 81 (.ix (.t 79) (.t 80) 8),
 Qo 82 (.fld (.t 81) 0),
 Qo 83 (.ld (.t 82) none),
 Qo 84 (.fld (.t 3) 5),
 Qo 85 (.ldl (.t 84) none),
 Qm 86 6,
 Qo 87 (.ix (.t 85) (.t 86) 8),
 Qo 88 (.fld (.t 87) 0),
 Qo 89 (.ld (.t 88) none),
 Qo 90 (.bin .neq (.t 83) (.t 89)),
 Qm 91 90,
 ⟨some 92,.fld (.t 2) 5,some (91,false)⟩,
 ⟨some 93,.ldl (.t 92) none,some (91,false)⟩,
 ⟨some 94,.mv (.t 6),some (91,false)⟩,
 ⟨some 95,.ix (.t 93) (.t 94) 8,some (91,false)⟩,
 ⟨some 96,.fld (.t 95) 1,some (91,false)⟩,
 ⟨some 97,.ld (.t 96) none,some (91,false)⟩,
 ⟨some 98,.fld (.t 3) 5,some (91,false)⟩,
 ⟨some 99,.ldl (.t 98) none,some (91,false)⟩,
 ⟨some 100,.mv (.t 6),some (91,false)⟩,
 ⟨some 101,.ix (.t 99) (.t 100) 8,some (91,false)⟩,
 ⟨some 102,.fld (.t 101) 1,some (91,false)⟩,
 ⟨some 103,.ld (.t 102) none,some (91,false)⟩,
 ⟨some 104,.call 36 [(.t 97),(.t 103)],some (91,false)⟩,
 ⟨some 105,.un .not (.t 104),some (91,false)⟩,
 Qo 106 (.pick (.t 91) (.c (.d (.bool true))) (.t 105)),
 Qm 107 106,
 ⟨some 108,.fld (.t 2) 5,some (107,false)⟩,
 ⟨some 109,.ldl (.t 108) none,some (107,false)⟩,
 ⟨some 110,.mv (.t 6),some (107,false)⟩,
 ⟨some 111,.ix (.t 109) (.t 110) 8,some (107,false)⟩,
 ⟨some 112,.fld (.t 111) 2,some (107,false)⟩,
 ⟨some 113,.ld (.t 112) (some 6),some (107,false)⟩,
 ⟨some 114,.fld (.t 3) 5,some (107,false)⟩,
 ⟨some 115,.ldl (.t 114) none,some (107,false)⟩,
 ⟨some 116,.mv (.t 6),some (107,false)⟩,
 ⟨some 117,.ix (.t 115) (.t 116) 8,some (107,false)⟩,
 ⟨some 118,.fld (.t 117) 2,some (107,false)⟩,
 ⟨some 119,.ld (.t 118) (some 6),some (107,false)⟩,
 ⟨some 120,.call 38 [(.t 113),(.t 119)],some (107,false)⟩,
 ⟨some 121,.un .not (.t 120),some (107,false)⟩,
 Qo 122 (.pick (.t 107) (.c (.d (.bool true))) (.t 121))] [2,3,6,122])
 (.cond (.t 122) (.seq (.reg [Qo 4 (.mv (.c (.d (.bool false))))] [4])
 .ret)
 .skip)))
 (.reg [Qm 76 6,
 Qo 77 (.bin .add (.t 76) (.c (.d (.int .i64 1)))),
 Qm 6 77] [2,3,6])))
def TT:C:=(.seq (.reg [Qo 2 (.box (.t 0) false),
 Qo 3 (.box (.t 1) false),
 Qo 4 (.mv (.c (.d (.bool false))))] [2,3])
 (.seq (.seq (.reg [Qo 7 (.fld (.t 2) 0),
 Qo 8 (.ldl (.t 7) none),
 Qo 9 (.fld (.t 3) 0),
 Qo 10 (.ldl (.t 9) none),
 Qo 11 (.bin .neq (.t 8) (.t 10)),
 Qm 12 11,
 ⟨some 13,.fld (.t 2) 1,some (12,false)⟩,
 ⟨some 14,.ldl (.t 13) none,some (12,false)⟩,
 ⟨some 15,.fld (.t 3) 1,some (12,false)⟩,
 ⟨some 16,.ldl (.t 15) none,some (12,false)⟩,
 ⟨some 17,.bin .neq (.t 14) (.t 16),some (12,false)⟩,
 Qo 18 (.pick (.t 12) (.c (.d (.bool true))) (.t 17)),
 Qm 19 18,
 ⟨some 20,.fld (.t 2) 2,some (19,false)⟩,
 ⟨some 21,.ldl (.t 20) none,some (19,false)⟩,
 ⟨some 22,.fld (.t 3) 2,some (19,false)⟩,
 ⟨some 23,.ldl (.t 22) none,some (19,false)⟩,
 ⟨some 24,.bin .neq (.t 21) (.t 23),some (19,false)⟩,
 Qo 25 (.pick (.t 19) (.c (.d (.bool true))) (.t 24)),
 Qm 26 25,
 ⟨some 27,.fld (.t 2) 3,some (26,false)⟩,
 ⟨some 28,.ldl (.t 27) none,some (26,false)⟩,
 ⟨some 29,.fld (.t 3) 3,some (26,false)⟩,
 ⟨some 30,.ldl (.t 29) none,some (26,false)⟩,
 ⟨some 31,.call 36 [(.t 28),(.t 30)],some (26,false)⟩,
 ⟨some 32,.un .not (.t 31),some (26,false)⟩,
 Qo 33 (.pick (.t 26) (.c (.d (.bool true))) (.t 32)),
 Qm 34 33,
 ⟨some 35,.fld (.t 2) 4,some (34,false)⟩,
 ⟨some 36,.ldl (.t 35) none,some (34,false)⟩,
 ⟨some 37,.len (.t 36),some (34,false)⟩,
 ⟨some 38,.fld (.t 3) 4,some (34,false)⟩,
 ⟨some 39,.ldl (.t 38) none,some (34,false)⟩,
 ⟨some 40,.len (.t 39),some (34,false)⟩,
 ⟨some 41,.bin .neq (.t 37) (.t 40),some (34,false)⟩,
 Qo 42 (.pick (.t 34) (.c (.d (.bool true))) (.t 41)),
 Qm 43 42,
 ⟨some 44,.fld (.t 2) 5,some (43,false)⟩,
 ⟨some 45,.ldl (.t 44) none,some (43,false)⟩,
 ⟨some 46,.len (.t 45),some (43,false)⟩,
 ⟨some 47,.fld (.t 3) 5,some (43,false)⟩,
 ⟨some 48,.ldl (.t 47) none,some (43,false)⟩,
 ⟨some 49,.len (.t 48),some (43,false)⟩,
 ⟨some 50,.bin .neq (.t 46) (.t 49),some (43,false)⟩,
 Qo 51 (.pick (.t 43) (.c (.d (.bool true))) (.t 50))] [2,3,51])
 (.cond (.t 51) (.seq (.reg [Qo 4 (.mv (.c (.d (.bool false))))] [4])
 .ret)
 .skip))
 (.seq (.seq (.reg [Qo 5 (.mv (.c (.d (.int .i64 0))))] [2,3,5])
 (.block 0 (.loop VL)))
 (.seq (.seq (.reg [Qo 6 (.mv (.c (.d (.int .i64 0))))] [2,3,6])
 (.block 2 (.loop VM)))
 (.seq (.reg [Qo 4 (.mv (.c (.d (.bool true))))] [4])
 .ret)))))
noncomputable def IA:Cx:=⟨Tryz.prog,38,Tryz.f38,123,[300008,300010,300014,300016,300021,300023,300028,300030,300036,300039,300045,300048,300054,300060,300065,300073,300079,300085,300093,300099,300109,300115],[],[.t 4]⟩
theorem C2:Good IA:=⟨Tryz.func38,by kernel_rfl⟩
theorem YP:IA.rs=[.t 4]:=rfl
theorem ZN (hl:args.length≤123) (h:Run IA K [.code TT] (Aq args) E σ):AQ Tryz.prog 38 args σ K:=
 AW (cx:=IA) (code:=Tryz.f38.body.getD .skip) C2 (by kernel_rfl) Tryz.ntmps38 hl (AZ IA _ (Av TT) _ [] (by kernel_rfl)) h
def K5:C:=(.seq (.reg [Qo 2 (.mv (.c (.d (.str []))))] [0])
 (.seq (.reg [Qm 3 0,
 Qo 4 (.call 176 [(.t 3)]),
 Qm 2 4] [2])
 .ret))
noncomputable def EA:Cx:=⟨Tryz.prog,145,Tryz.f145,5,[],[],[.t 2]⟩
theorem Kq:Good EA:=⟨Tryz.func145,by kernel_rfl⟩
theorem Qr:EA.rs=[.t 2]:=rfl
theorem R8 (hl:args.length≤5) (h:Run EA K [.code K5] (Aq args) E σ):AQ Tryz.prog 145 args σ K:=
 AW (cx:=EA) (code:=Tryz.f145.body.getD .skip) Kq (by kernel_rfl) Tryz.ntmps145 hl (AZ EA _ (Av K5) _ [] (by kernel_rfl)) h
def Fo:C:=(.seq (.reg [Qo 2 (.mv (.c (.d (.str []))))] [0])
 (.seq (.seq (.reg [Qm 3 0] [3])
 (.cond (.t 3) (.seq (.reg [Qo 2 (.mv (.c (.d (.str [116,114,117,101]))))] [2])
 .ret)
 .skip))
 (.seq (.reg [Qo 2 (.mv (.c (.d (.str [102,97,108,115,101]))))] [2])
 .ret)))
noncomputable def Bq:Cx:=⟨Tryz.prog,176,Tryz.f176,4,[],[],[.t 2]⟩
theorem Ft:Good Bq:=⟨Tryz.func176,by kernel_rfl⟩
theorem KL:Bq.rs=[.t 2]:=rfl
theorem Kz (hl:args.length≤4) (h:Run Bq K [.code Fo] (Aq args) E σ):AQ Tryz.prog 176 args σ K:=
 AW (cx:=Bq) (code:=Tryz.f176.body.getD .skip) Ft (by kernel_rfl) Tryz.ntmps176 hl (AZ Bq _ (Av Fo) _ [] (by kernel_rfl)) h
attribute [go_sem] TA eT YO Wd YR YP Qr KL
end Go.Ab
