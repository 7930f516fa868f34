/- The compact codes of the functions of this seat, computed out of the translation. The printer: levels, places, truth values; open, parenthesized, list, parts. Conditions: none. -/
import Derived.Test.YtifplkldbbcldaaGreatDoorProg
import Derived.KernelRfl
import Derived.Test.YtifplkldbbcldaaGreatDoorXPh
set_option linter.unusedSimpArgs false
set_option linter.unusedVariables false
set_option maxRecDepth 4000
set_option maxHeartbeats 8000000
open List renaming map_cons→AF,map_nil→AI,length_cons→AB,length_append→AA,length_nil→AE,append_assoc→AT
open Int renaming reduceBEq→AS
namespace Go.Ab
open Go.Proofs
variable {args:List AV} {σ:AM} {K:AV→AM→Prop}
def Ni:C:=(.seq (.reg [Qo 1 (.box (.t 0) false),
 Qo 2 (.mv (.c (.d (.bool false))))] [1])
 (.seq (.seq (.reg [Qo 3 (.ldl (.t 1) (some 6)),
 Qo 4 (.call 22 [(.t 3)]),
 Qo 5 (.un .not (.t 4))] [1,5])
 (.cond (.t 5) (.seq (.reg [Qo 2 (.mv (.c (.d (.bool true))))] [2])
 .ret)
 .skip))
 (.seq (.reg [Qo 6 (.ldl (.t 1) (some 6)),
 Qo 8 (.ldl (.t 1) (some 6)),
 Qo 7 (.call 23 [(.t 6)]),
 Qo 9 (.call 24 [(.t 8)]),
 Qo 10 (.bin .eql (.t 7) (.t 9)),
 Qm 11 10,
 ⟨some 12,.ldl (.t 1) (some 6),some (11,true)⟩,
 ⟨some 14,.ldl (.t 1) (some 6),some (11,true)⟩,
 ⟨some 13,.call 25 [(.t 12)],some (11,true)⟩,
 ⟨some 15,.call 26 [(.t 14)],some (11,true)⟩,
 ⟨some 16,.bin .eql (.t 13) (.t 15),some (11,true)⟩,
 Qo 17 (.pick (.t 11) (.t 16) (.c (.d (.bool false)))),
 Qm 18 17,
 ⟨some 19,.call 15 [],some (18,true)⟩,
 Qo 20 (.pick (.t 18) (.t 19) (.c (.d (.bool false)))),
 Qm 2 20] [2])
 .ret)))
def Ny:List (List Nat×PT):=[([1],.done),([1,5],.done),([2],.done),([2],(.one 0 (.one 2 (.one 1 (.one 3 (.one 4 (.one 5 (.one 6 (.one 8 (.one 7 (.one 9 (.one 10 (.one 11 (.one 12 (.one 13 (.one 14 (.one 15 .done)))))))))))))))))]
noncomputable def Ca:Cx:=⟨Tryz.prog,10,Tryz.f10,21,[300003,300006,300008,300012,300014],[],[.t 2]⟩
theorem FL:Good Ca:=⟨Tryz.func10,by kernel_rfl⟩
theorem NV:Ca.rs=[.t 2]:=rfl
theorem Nl (hl:args.length≤21) (h:Run Ca K [.code Ni] (At args) E σ):AP Tryz.prog 10 args σ K:=
 AX (cx:=Ca) (code:=Tryz.f10.body.getD .skip) FL (by kernel_rfl) Tryz.ntmps10 hl (AZ Ca _ Ny _ [] (by kernel_rfl)) h
def Tk:C:=(.seq (.reg [Qo 0 (.mv (.c (.d (.bool false))))] [])
 (.seq (.reg [Qo 5 (.call 12 [(.c (.d (.str [102,117,110,32,102,40,120,41,61,105,102,32,120,60,61,48,32,116,104,101,110,40,41,32,101,108,115,101,32,102,40,120,45,49,41,59])))]),
 Qm 4 5,
 Qo 6 (.ext (.t 4) 0),
 Qo 7 (.ext (.t 4) 1),
 Qo 8 (.ext (.t 4) 2),
 Qo 1 (.al [.AY,.AY] false),
 ⟨none,.st (.t 1) (.t 6) 2,none⟩,
 Qm 2 7,
 Qm 3 8] [1,3])
 (.seq (.reg [Qm 9 3,
 Qo 10 (.bin .eql (.t 9) (.c (.d (.int .i64 0)))),
 Qm 11 10,
 ⟨some 12,.fld (.t 1) 1,some (11,true)⟩,
 ⟨some 13,.ldl (.t 12) none,some (11,true)⟩,
 ⟨some 14,.len (.t 13),some (11,true)⟩,
 ⟨some 15,.bin .eql (.t 14) (.c (.d (.int .i64 1))),some (11,true)⟩,
 Qo 16 (.pick (.t 11) (.t 15) (.c (.d (.bool false)))),
 Qm 17 16,
 ⟨some 18,.ldl (.t 1) (some 2),some (17,true)⟩,
 ⟨some 19,.call 17 [(.t 18)],some (17,true)⟩,
 ⟨some 20,.bin .eql (.t 19) (.c (.d (.str [102,117,110,32,102,40,120,41,32,61,32,105,102,32,120,32,60,61,32,48,32,116,104,101,110,32,40,41,32,101,108,115,101,32,102,40,120,32,45,32,49,41,59,10]))),some (17,true)⟩,
 Qo 21 (.pick (.t 17) (.t 20) (.c (.d (.bool false)))),
 Qm 0 21] [0])
 .ret)))
noncomputable def IG:Cx:=⟨Tryz.prog,15,Tryz.f15,22,[300013,300018],[],[.t 0]⟩
theorem Tx:Good IG:=⟨Tryz.func15,by kernel_rfl⟩
theorem ZL:IG.rs=[.t 0]:=rfl
theorem aE (hl:args.length≤22) (h:Run IG K [.code Tk] (At args) E σ):AP Tryz.prog 15 args σ K:=
 AX (cx:=IG) (code:=Tryz.f15.body.getD .skip) Tx (by kernel_rfl) Tryz.ntmps15 hl (AZ IG _ (Ax Tk) _ [] (by kernel_rfl)) h
def W9:C:=(.seq (.reg [Qo 1 (.box (.t 0) false),
 Qo 2 (.mv (.c (.d (.bool false))))] [1])
 (.seq (.reg [Qo 3 (.ex (.alt 3 [(.d (.int .i64 0))]) []),
 ⟨none,.st (.t 3) (.c (.d (.int .i64 200))) 1,none⟩] [1,3])
 (.seq (.reg [Qo 4 (.ldl (.t 1) (some 6)),
 Qo 5 (.call 41 [(.t 4),(.t 3)]),
 Qm 2 5] [2])
 .ret)))
noncomputable def L2:Cx:=⟨Tryz.prog,22,Tryz.f22,6,[3,300004],[],[.t 2]⟩
theorem Wk:Good L2:=⟨Tryz.func22,by kernel_rfl⟩
theorem eN:L2.rs=[.t 2]:=rfl
theorem gC (hl:args.length≤6) (h:Run L2 K [.code W9] (At args) E σ):AP Tryz.prog 22 args σ K:=
 AX (cx:=L2) (code:=Tryz.f22.body.getD .skip) Wk (by kernel_rfl) Tryz.ntmps22 hl (AZ L2 _ (Ax W9) _ [] (by kernel_rfl)) h
def VA:C:=(.seq (.reg [Qo 12 (.bin .lss (.t 11) (.t 10))] [1,3,9,10,11,12])
 (.seq (.cond (.t 12) .skip
 (.exit 0))
 (.seq (.block 1 (.seq (.reg [Qo 13 (.ix (.t 9) (.t 11) 6),
 Qo 14 (.ld (.t 13) (some 6)),
 Qo 5 (.al [(.d (.int .i64 0)),(.d (.str [])),(.d (.int .i64 0)),.AY,.AY,.AY] false),
 ⟨none,.st (.t 5) (.t 14) 6,none⟩] [1,3,5,9,10,11])
 (.reg [Qm 15 3,
 Qo 16 (.ldl (.t 5) (some 6)),
 Qo 17 (.call 25 [(.t 16)]),
 Qo 18 (.bin .add (.t 15) (.t 17)),
 Qm 3 18] [1,3,9,10,11])))
 (.reg [Qo 19 (.bin .add (.t 11) (.c (.d (.int .i64 1)))),
 Qm 11 19] [1,3,9,10,11]))))
def VB:C:=(.seq (.reg [Qo 24 (.bin .lss (.t 23) (.t 22))] [3,21,22,23,24])
 (.seq (.cond (.t 24) .skip
 (.exit 2))
 (.seq (.block 3 (.seq (.reg [Qo 25 (.ix (.t 21) (.t 23) 8),
 Qo 26 (.ld (.t 25) (some 8)),
 Qo 7 (.al [(.d (.str [])),.AY,(.d (.int .i64 0)),(.d (.str [])),(.d (.int .i64 0)),.AY,.AY,.AY] false),
 ⟨none,.st (.t 7) (.t 26) 8,none⟩] [3,7,21,22,23])
 (.reg [Qm 27 3,
 Qo 28 (.fld (.t 7) 2),
 Qo 29 (.ldl (.t 28) (some 6)),
 Qo 30 (.call 25 [(.t 29)]),
 Qo 31 (.bin .add (.t 27) (.t 30)),
 Qm 3 31] [3,21,22,23])))
 (.reg [Qo 32 (.bin .add (.t 23) (.c (.d (.int .i64 1)))),
 Qm 23 32] [3,21,22,23]))))
def Rn:C:=(.seq (.reg [Qo 1 (.box (.t 0) false),
 Qo 2 (.mv (.c (.d (.int .i64 0))))] [1])
 (.seq (.reg [Qo 3 (.mv (.c (.d (.int .i64 1))))] [1,3])
 (.seq (.seq (.reg [Qo 8 (.fld (.t 1) 4),
 Qo 9 (.ldl (.t 8) none),
 Qo 10 (.len (.t 9)),
 Qo 11 (.mv (.c (.d (.int .i64 0))))] [1,3,9,10,11])
 (.block 0 (.loop VA)))
 (.seq (.seq (.reg [Qo 20 (.fld (.t 1) 5),
 Qo 21 (.ldl (.t 20) none),
 Qo 22 (.len (.t 21)),
 Qo 23 (.mv (.c (.d (.int .i64 0))))] [3,21,22,23])
 (.block 2 (.loop VB)))
 (.seq (.reg [Qm 33 3,
 Qm 2 33] [2])
 .ret)))))
noncomputable def HV:Cx:=⟨Tryz.prog,25,Tryz.f25,34,[300009,300016,300021,300029],[],[.t 2]⟩
theorem Rz:Good HV:=⟨Tryz.func25,by kernel_rfl⟩
theorem XW:HV.rs=[.t 2]:=rfl
theorem Y9 (hl:args.length≤34) (h:Run HV K [.code Rn] (At args) E σ):AP Tryz.prog 25 args σ K:=
 AX (cx:=HV) (code:=Tryz.f25.body.getD .skip) Rz (by kernel_rfl) Tryz.ntmps25 hl (AZ HV _ (Ax Rn) _ [] (by kernel_rfl)) h
def Zt:C:=(.seq (.seq (.reg [Qm 6 4,
 Qo 7 (.fld (.t 1) 4),
 Qo 8 (.ldl (.t 7) none),
 Qo 9 (.len (.t 8)),
 Qo 10 (.bin .lss (.t 6) (.t 9))] [1,3,4,10])
 (.cond (.t 10) .skip
 (.exit 0)))
 (.seq (.block 1 (.reg [Qm 13 3,
 Qo 14 (.fld (.t 1) 4),
 Qo 15 (.ldl (.t 14) none),
 Qm 16 4,
 Qo 17 (.ix (.t 15) (.t 16) 6),
 Qo 18 (.ld (.t 17) (some 6)),
 Qo 19 (.call 26 [(.t 18)]),
 Qo 20 (.bin .add (.t 13) (.t 19)),
 Qm 3 20] [1,3,4]))
 (.reg [Qm 11 4,
 Qo 12 (.bin .add (.t 11) (.c (.d (.int .i64 1)))),
 Qm 4 12] [1,3,4])))
def Zu:C:=(.seq (.seq (.reg [Qm 21 5,
 Qo 22 (.fld (.t 1) 5),
 Qo 23 (.ldl (.t 22) none),
 Qo 24 (.len (.t 23)),
 Qo 25 (.bin .lss (.t 21) (.t 24))] [1,3,5,25])
 (.cond (.t 25) .skip
 (.exit 2)))
 (.seq (.block 3 (.reg [Qm 28 3,
 Qo 29 (.fld (.t 1) 5),
 Qo 30 (.ldl (.t 29) none),
 Qm 31 5,
 Qo 32 (.ix (.t 30) (.t 31) 8),
 Qo 33 (.fld (.t 32) 2),
 Qo 34 (.ld (.t 33) (some 6)),
 Qo 35 (.call 26 [(.t 34)]),
 Qo 36 (.bin .add (.t 28) (.t 35)),
 Qm 3 36] [1,3,5]))
 (.reg [Qm 26 5,
 Qo 27 (.bin .add (.t 26) (.c (.d (.int .i64 1)))),
 Qm 5 27] [1,3,5])))
def YJ:C:=(.seq (.reg [Qo 1 (.box (.t 0) false),
 Qo 2 (.mv (.c (.d (.int .i64 0))))] [1])
 (.seq (.reg [Qo 3 (.mv (.c (.d (.int .i64 1))))] [1,3])
 (.seq (.seq (.reg [Qo 4 (.mv (.c (.d (.int .i64 0))))] [1,3,4])
 (.block 0 (.loop Zt)))
 (.seq (.seq (.reg [Qo 5 (.mv (.c (.d (.int .i64 0))))] [1,3,5])
 (.block 2 (.loop Zu)))
 (.seq (.reg [Qm 37 3,
 Qm 2 37] [2])
 .ret)))))
noncomputable def Na:Cx:=⟨Tryz.prog,26,Tryz.f26,38,[300008,300015,300023,300030],[],[.t 2]⟩
theorem Y4:Good Na:=⟨Tryz.func26,by kernel_rfl⟩
theorem iN:Na.rs=[.t 2]:=rfl
theorem kN (hl:args.length≤38) (h:Run Na K [.code YJ] (At args) E σ):AP Tryz.prog 26 args σ K:=
 AX (cx:=Na) (code:=Tryz.f26.body.getD .skip) Y4 (by kernel_rfl) Tryz.ntmps26 hl (AZ Na _ (Ax YJ) _ [] (by kernel_rfl)) h
def XE:C:=(.seq (.seq (.reg [Qm 6 5,
 Qm 7 0,
 Qo 8 (.len (.t 7)),
 Qo 9 (.bin .lss (.t 6) (.t 8)),
 Qm 10 9,
 ⟨some 11,.mv (.t 5),some (10,true)⟩,
 ⟨some 12,.mv (.t 1),some (10,true)⟩,
 ⟨some 13,.bin .leq (.t 11) (.t 12),some (10,true)⟩,
 Qo 14 (.pick (.t 10) (.t 13) (.c (.d (.bool false))))] [0,1,5,14])
 (.cond (.t 14) .skip
 (.exit 0)))
 (.seq (.block 1 (.seq (.reg [Qm 17 0,
 Qm 18 5,
 Qo 19 (.ix (.t 17) (.t 18) 1),
 Qo 20 (.ld (.t 19) none),
 Qo 21 (.J3 (.t 20)),
 Qo 22 (.bin .gtr (.t 21) (.c (.d (.int .i64 40))))] [0,1,5,22])
 (.cond (.t 22) (.seq (.reg [Qo 4 (.mv (.c (.d (.bool false))))] [4])
 .ret)
 .skip)))
 (.reg [Qm 15 5,
 Qo 16 (.bin .add (.t 15) (.c (.d (.int .i64 1)))),
 Qm 5 16] [0,1,5])))
def Ux:C:=(.seq (.reg [Qo 4 (.mv (.c (.d (.bool false))))] [0,1])
 (.seq (.seq (.reg [Qo 5 (.mv (.c (.d (.int .i64 0))))] [0,1,5])
 (.block 0 (.loop XE)))
 (.seq (.reg [Qm 23 0,
 Qo 24 (.len (.t 23)),
 Qm 25 1,
 Qo 26 (.bin .leq (.t 24) (.t 25)),
 Qm 4 26] [4])
 .ret)))
noncomputable def J6:Cx:=⟨Tryz.prog,39,Tryz.f39,27,[],[],[.t 4]⟩
theorem M4:Good J6:=⟨Tryz.func39,by kernel_rfl⟩
theorem aQ:J6.rs=[.t 4]:=rfl
theorem dO (hl:args.length≤27) (h:Run J6 K [.code Ux] (At args) E σ):AP Tryz.prog 39 args σ K:=
 AX (cx:=J6) (code:=Tryz.f39.body.getD .skip) M4 (by kernel_rfl) Tryz.ntmps39 hl (AZ J6 _ (Ax Ux) _ [] (by kernel_rfl)) h
def YC:C:=(.seq (.seq (.reg [Qm 40 5,
 Qo 41 (.fld (.t 2) 4),
 Qo 42 (.ldl (.t 41) none),
 Qo 43 (.len (.t 42)),
 Qo 44 (.bin .lss (.t 40) (.t 43))] [1,2,5,44])
 (.cond (.t 44) .skip
 (.exit 0)))
 (.seq (.block 1 (.seq (.reg [Qo 47 (.fld (.t 2) 4),
 Qo 48 (.ldl (.t 47) none),
 Qm 49 5,
 Qo 50 (.ix (.t 48) (.t 49) 6),
 Qo 51 (.ld (.t 50) (some 6)),
 Qm 52 1,
 Qo 53 (.call 41 [(.t 51),(.t 52)]),
 Qo 54 (.un .not (.t 53))] [1,2,5,54])
 (.cond (.t 54) (.seq (.reg [Qo 4 (.mv (.c (.d (.bool false))))] [4])
 .ret)
 .skip)))
 (.reg [Qm 45 5,
 Qo 46 (.bin .add (.t 45) (.c (.d (.int .i64 1)))),
 Qm 5 46] [1,2,5])))
def YD:C:=(.seq (.seq (.reg [Qm 55 6,
 Qo 56 (.fld (.t 2) 5),
 Qo 57 (.ldl (.t 56) none),
 Qo 58 (.len (.t 57)),
 Qo 59 (.bin .lss (.t 55) (.t 58))] [1,2,6,59])
 (.cond (.t 59) .skip
 (.exit 2)))
 (.seq (.block 3 (.seq (.reg [Qo 62 (.fld (.t 2) 5),
 Qo 63 (.ldl (.t 62) none),
 Qm 64 6,
 Qo 65 (.ix (.t 63) (.t 64) 8),
 Qo 66 (.fld (.t 65) 0),
 Qo 67 (.ld (.t 66) none),
 Qo 68 (.J3 (.t 67)),
 Qo 69 (.bin .gtr (.t 68) (.c (.d (.int .i64 40)))),
 Qm 70 69,
 ⟨some 71,.fld (.t 2) 5,some (70,false)⟩,
 ⟨some 72,.ldl (.t 71) none,some (70,false)⟩,
 ⟨some 73,.mv (.t 6),some (70,false)⟩,
 ⟨some 74,.ix (.t 72) (.t 73) 8,some (70,false)⟩,
 ⟨some 75,.fld (.t 74) 1,some (70,false)⟩,
 ⟨some 76,.ld (.t 75) none,some (70,false)⟩,
 ⟨some 77,.call 39 [(.t 76),(.c (.d (.int .i64 10)))],some (70,false)⟩,
 ⟨some 78,.un .not (.t 77),some (70,false)⟩,
 Qo 79 (.pick (.t 70) (.c (.d (.bool true))) (.t 78)),
 Qm 80 79,
 ⟨some 81,.fld (.t 2) 5,some (80,false)⟩,
 ⟨some 82,.ldl (.t 81) none,some (80,false)⟩,
 ⟨some 83,.mv (.t 6),some (80,false)⟩,
 ⟨some 84,.ix (.t 82) (.t 83) 8,some (80,false)⟩,
 ⟨some 85,.fld (.t 84) 2,some (80,false)⟩,
 ⟨some 86,.ld (.t 85) (some 6),some (80,false)⟩,
 ⟨some 87,.mv (.t 1),some (80,false)⟩,
 ⟨some 88,.call 41 [(.t 86),(.t 87)],some (80,false)⟩,
 ⟨some 89,.un .not (.t 88),some (80,false)⟩,
 Qo 90 (.pick (.t 80) (.c (.d (.bool true))) (.t 89))] [1,2,6,90])
 (.cond (.t 90) (.seq (.reg [Qo 4 (.mv (.c (.d (.bool false))))] [4])
 .ret)
 .skip)))
 (.reg [Qm 60 6,
 Qo 61 (.bin .add (.t 60) (.c (.d (.int .i64 1)))),
 Qm 6 61] [1,2,6])))
def Wa:C:=(.seq (.reg [Qo 2 (.box (.t 0) false),
 Qo 4 (.mv (.c (.d (.bool false))))] [1,2])
 (.seq (.reg [Qm 7 1,
 Qo 8 (.nck (.t 7)),
 Qo 9 (.ld (.t 8) none),
 Qo 10 (.bin .sub (.t 9) (.c (.d (.int .i64 1)))),
 Qo 11 (.nck (.t 7)),
 ⟨none,.st (.t 11) (.t 10) 1,none⟩] [1,2])
 (.seq (.seq (.reg [Qm 12 1,
 Qo 13 (.nck (.t 12)),
 Qo 14 (.ld (.t 13) none),
 Qo 15 (.bin .lss (.t 14) (.c (.d (.int .i64 0)))),
 Qm 16 15,
 ⟨some 17,.fld (.t 2) 1,some (16,false)⟩,
 ⟨some 18,.ldl (.t 17) none,some (16,false)⟩,
 ⟨some 19,.J3 (.t 18),some (16,false)⟩,
 ⟨some 20,.bin .gtr (.t 19) (.c (.d (.int .i64 40))),some (16,false)⟩,
 Qo 21 (.pick (.t 16) (.c (.d (.bool true))) (.t 20)),
 Qm 22 21,
 ⟨some 23,.fld (.t 2) 3,some (22,false)⟩,
 ⟨some 24,.ldl (.t 23) none,some (22,false)⟩,
 ⟨some 25,.call 39 [(.t 24),(.c (.d (.int .i64 10)))],some (22,false)⟩,
 ⟨some 26,.un .not (.t 25),some (22,false)⟩,
 Qo 27 (.pick (.t 22) (.c (.d (.bool true))) (.t 26)),
 Qm 28 27,
 ⟨some 29,.fld (.t 2) 4,some (28,false)⟩,
 ⟨some 30,.ldl (.t 29) none,some (28,false)⟩,
 ⟨some 31,.len (.t 30),some (28,false)⟩,
 ⟨some 32,.bin .gtr (.t 31) (.c (.d (.int .i64 10))),some (28,false)⟩,
 Qo 33 (.pick (.t 28) (.c (.d (.bool true))) (.t 32)),
 Qm 34 33,
 ⟨some 35,.fld (.t 2) 5,some (34,false)⟩,
 ⟨some 36,.ldl (.t 35) none,some (34,false)⟩,
 ⟨some 37,.len (.t 36),some (34,false)⟩,
 ⟨some 38,.bin .gtr (.t 37) (.c (.d (.int .i64 10))),some (34,false)⟩,
 Qo 39 (.pick (.t 34) (.c (.d (.bool true))) (.t 38))] [1,2,39])
 (.cond (.t 39) (.seq (.reg [Qo 4 (.mv (.c (.d (.bool false))))] [4])
 .ret)
 .skip))
 (.seq (.seq (.reg [Qo 5 (.mv (.c (.d (.int .i64 0))))] [1,2,5])
 (.block 0 (.loop YC)))
 (.seq (.seq (.reg [Qo 6 (.mv (.c (.d (.int .i64 0))))] [1,2,6])
 (.block 2 (.loop YD)))
 (.seq (.reg [Qo 4 (.mv (.c (.d (.bool true))))] [4])
 .ret))))))
noncomputable def L3:Cx:=⟨Tryz.prog,41,Tryz.f41,91,[300018,300024,300030,300036,300042,300048,300057,300063,300072,300082],[],[.t 4]⟩
theorem Dz:Good L3:=⟨Tryz.func41,by kernel_rfl⟩
theorem eO:L3.rs=[.t 4]:=rfl
theorem gD (hl:args.length≤91) (h:Run L3 K [.code Wa] (At args) E σ):AP Tryz.prog 41 args σ K:=
 AX (cx:=L3) (code:=Tryz.f41.body.getD .skip) Dz (by kernel_rfl) Tryz.ntmps41 hl (AZ L3 _ (Ax Wa) _ [] (by kernel_rfl)) h
def Ki:C:=(.seq (.reg [Qo 2 (.mv (.c (.d (.str []))))] [0])
 (.seq (.reg [Qm 3 0,
 Qo 4 (.call 176 [(.t 3)]),
 Qm 2 4] [2])
 .ret))
noncomputable def EE:Cx:=⟨Tryz.prog,145,Tryz.f145,5,[],[],[.t 2]⟩
theorem LF:Good EE:=⟨Tryz.func145,by kernel_rfl⟩
theorem RU:EE.rs=[.t 2]:=rfl
theorem SE (hl:args.length≤5) (h:Run EE K [.code Ki] (At args) E σ):AP Tryz.prog 145 args σ K:=
 AX (cx:=EE) (code:=Tryz.f145.body.getD .skip) LF (by kernel_rfl) Tryz.ntmps145 hl (AZ EE _ (Ax Ki) _ [] (by kernel_rfl)) h
def Fz:C:=(.seq (.reg [Qo 2 (.mv (.c (.d (.str []))))] [0])
 (.seq (.seq (.reg [Qm 3 0] [3])
 (.cond (.t 3) (.seq (.reg [Qo 2 (.mv (.c (.d (.str [116,114,117,101]))))] [2])
 .ret)
 .skip))
 (.seq (.reg [Qo 2 (.mv (.c (.d (.str [102,97,108,115,101]))))] [2])
 .ret)))
noncomputable def Bs:Cx:=⟨Tryz.prog,176,Tryz.f176,4,[],[],[.t 2]⟩
theorem GC:Good Bs:=⟨Tryz.func176,by kernel_rfl⟩
theorem K0:Bs.rs=[.t 2]:=rfl
theorem LN (hl:args.length≤4) (h:Run Bs K [.code Fz] (At args) E σ):AP Tryz.prog 176 args σ K:=
 AX (cx:=Bs) (code:=Tryz.f176.body.getD .skip) GC (by kernel_rfl) Tryz.ntmps176 hl (AZ Bs _ (Ax Fz) _ [] (by kernel_rfl)) h
attribute [go_sem] NV ZL eN XW iN aQ eO RU K0
end Go.Ab
namespace Go.Ab
open Go.Proofs
theorem QN (b:Bool) (σ:AM):AP Tryz.prog 176 [.d (.bool b)] σ (fun v σ'=>v= .d (.str (if b then [116,114,117,101] else [102,97,108,115,101]))∧σ'=σ):=by
 refine LN (by simp) ?_
 rw [Av]
 cases b
 all_goals (repeat' (first|refine Run.ct rfl ?_|((first|refine Run.reg mixed ?_|refine Run.AJ ?_|refine Run.Ad GC (AM.le_refl _) ?_|(refine AQ rfl (fun h=>?_) (fun h=>?_)<;>try (cases h;done)))<;>try simp -implicitDefEqProofs only [go_sem])|(refine ⟨fun h=>?_,fun h=>?_⟩<;>first|(cases h;done)|try simp only [h])|fail))
 all_goals rfl
theorem Th (b:Bool) (σ:AM):AP Tryz.prog 145 [.d (.bool b)] σ (fun v σ'=>v= .d (.str (if b then [116,114,117,101] else [102,97,108,115,101]))∧σ'=σ):=by
 refine SE (by simp) ?_
 rw [Av]
 (repeat' (first|refine Run.ct rfl ?_|((first|refine Run.reg mixed ?_|refine Run.AJ ?_|refine Run.Ad LF (AM.le_refl _) ?_|refine AH.det (QN b _) ?_|(refine AQ rfl (fun h=>?_) (fun h=>?_)<;>try (cases h;done)))<;>try simp -implicitDefEqProofs only [go_sem])|(refine ⟨fun h=>?_,fun h=>?_⟩<;>first|(cases h;done)|try simp only [h])|fail))
theorem gU (e:Ex) (σ:AM):AP Tryz.prog 87 [exA e] σ (fun v σ'=>v= .d (.int .i64 ((lvl e:Nat):Int))∧σ'=σ):=by
 refine Yc (by simp) ?_
 rw [Av]
 obtain ⟨o,n,u,ns,ks,al⟩:=e
 simp only [exA,Ex.A2,AF,AI,lvl]
 by_cases h0:o=7∨o=8∨o=9∨o=10∨o=11∨o=17
 · rw [if_pos h0]
   rcases h0 with rfl|rfl|rfl|rfl|rfl|rfl
   all_goals (repeat' (first|refine Run.ct rfl ?_|((first|refine Run.reg mixed ?_|refine Run.AJ ?_|refine Run.Ad HK (AM.le_refl _) ?_|(refine AQ rfl (fun h=>?_) (fun h=>?_)<;>try (cases h;done)))<;>try simp -implicitDefEqProofs only [AS,go_sem])|(refine ⟨fun h=>?_,fun h=>?_⟩<;>first|(cases h;done)|try simp only [h])|fail))
   all_goals rfl
 · rw [if_neg h0]
   simp only [not_or] at h0
   obtain ⟨h1,h2,h3,h4,h5,h6⟩:=h0
   by_cases h13:o=13
   · subst h13
     rw [if_pos rfl]
     (repeat' (first|refine Run.ct rfl ?_|((first|refine Run.reg mixed ?_|refine Run.AJ ?_|refine Run.Ad HK (AM.le_refl _) ?_|refine AH.det (KW u _) ?_|(refine AQ rfl (fun h=>?_) (fun h=>?_)<;>try (cases h;done)))<;>try simp -implicitDefEqProofs only [AS,go_sem])|(refine ⟨fun h=>?_,fun h=>?_⟩<;>first|(cases h;done)|try simp only [h])|fail))
   · rw [if_neg h13]
     by_cases h12:o=12
     · subst h12
       rw [if_pos rfl]
       (repeat' (first|refine Run.ct rfl ?_|((first|refine Run.reg mixed ?_|refine Run.AJ ?_|refine Run.Ad HK (AM.le_refl _) ?_|(refine AQ rfl (fun h=>?_) (fun h=>?_)<;>try (cases h;done)))<;>try simp -implicitDefEqProofs only [AS,go_sem])|(refine ⟨fun h=>?_,fun h=>?_⟩<;>first|(cases h;done)|try simp only [h])|fail))
       all_goals rfl
     · rw [if_neg h12]
       (repeat' (first|refine Run.ct rfl ?_|((first|refine Run.reg mixed ?_|refine Run.AJ ?_|refine Run.Ad HK (AM.le_refl _) ?_|(refine AQ rfl (fun h=>?_) (fun h=>?_)<;>try (cases h;done)))<;>try simp -implicitDefEqProofs only [Bq h1,Bq h2,Bq h3,Bq h4,Bq h5,Bq h6,Bq h12,Bq h13,go_sem])|(refine ⟨fun h=>?_,fun h=>?_⟩<;>first|(cases h;done)|try simp only [h])|fail))
       all_goals rfl
def plL (u:Int):Nat:=if Cf u=1 then 2 else Cf u
def plR (u:Int):Nat:=if Cf u=1 then 2 else Cf u+1
theorem WN (u:Int) (σ:AM):AP Tryz.prog 90 [.d (.int .i64 u)] σ (fun v σ'=>v= .tup [.d (.int .i64 ((plL u:Nat):Int)),.d (.int .i64 ((plR u:Nat):Int))]∧σ'=σ):=by
 refine QG (by simp) ?_
 rw [Av]
 have hc:=KW u σ
 have h3:Cf u=1∨Cf u=2∨Cf u=3:=by unfold Cf;split;exact .inr (.inl rfl);split;exact .inr (.inr rfl);exact .inl rfl
 unfold plL plR
 generalize Cf u=z at hc h3 ⊢
 rcases h3 with rfl|rfl|rfl
 all_goals (repeat' (first|refine Run.ct rfl ?_|((first|refine Run.reg mixed ?_|refine Run.AJ ?_|refine Run.Ad JQ (AM.le_refl _) ?_|refine AH.det (hc) ?_|(refine AQ rfl (fun h=>?_) (fun h=>?_)<;>try (cases h;done)))<;>try simp -implicitDefEqProofs only [AS,go_sem])|(refine ⟨fun h=>?_,fun h=>?_⟩<;>first|(cases h;done)|try simp only [h])|fail))
 all_goals rfl
def EC (i:Nat) (e:Ex) (lev:Nat):Prop:=WC 45 [.gp i 0,exA e,.d (.int .i64 (lev:Int))] i (pl lev e (Af e))
theorem eF {i:Nat} {e:Ex} (h:EC i e 0):WC 139 [.gp i 0,exA e] i (Af e):=by
 intro σ0 σ s hH hbu hlen
 have hc:=h σ0 σ s hH hbu (by rw [pl,if_neg (by omega)];exact hlen)
 rw [pl,if_neg (by omega)] at hc
 refine RN (by simp) ?_
 rw [BP]
 obtain ⟨o,n,u,ns,ks,al⟩:=e
 simp only [exA,Ex.A2,AF,AI] at hc ⊢
 (repeat' (first|refine Run.ct rfl ?_|((first|refine Run.reg mixed ?_|refine Run.AJ ?_|(refine AH.mk rfl hc ?_;rintro _ σ1 ⟨rfl,hb1⟩)|(refine AQ rfl (fun h=>?_) (fun h=>?_)<;>try (cases h;done)))<;>try simp -implicitDefEqProofs only [go_sem])|(refine ⟨fun h=>?_,fun h=>?_⟩<;>first|(cases h;done)|try simp only [h])|fail))
 exact Run.fin KA rfl (fun _ _ h=>h) (AM.le_refl _) ⟨rfl,hb1⟩
theorem PL {i:Nat} {e:Ex} (h:WC 139 [.gp i 0,exA e] i (Af e)):WC 88 [.gp i 0,exA e] i (Fk (Af e)):=by
 intro σ0 σ s hH hbu hlen
 refine KQ (by simp) ?_
 rw [BP]
 have e1:s++Fk (Af e)=s++[40]++Af e++[41]:=by simp [Fk]
 simp only [Fk,AB,AA,AE] at hlen
 rw [e1]
 have hop:=fun σ1 hb1=>h σ0 σ1 (s++[40]) hH hb1 (by simp only [AB,AA,AE];omega)
 generalize Af e=x at hop hlen ⊢
 obtain ⟨o,n,u,ns,ks,al⟩:=e
 simp only [exA,Ex.A2,AF,AI] at hop ⊢
 (repeat' (first|refine Run.ct rfl ?_|((first|refine Run.reg mixed ?_|refine Run.AJ ?_|(refine AH.mk rfl (A6 [40] hbu (by simp only [AB,AE];omega)) ?_;rintro _ σ1 ⟨rfl,hb1⟩)|(refine AQ rfl (fun h=>?_) (fun h=>?_)<;>try (cases h;done)))<;>try simp -implicitDefEqProofs only [go_sem])|(refine ⟨fun h=>?_,fun h=>?_⟩<;>first|(cases h;done)|try simp only [h])|fail))
 (repeat' (first|refine Run.ct rfl ?_|((first|refine Run.reg mixed ?_|refine Run.AJ ?_|(refine AH.mk rfl (hop σ1 hb1) ?_;rintro _ σ2 ⟨rfl,hb2⟩)|(refine AQ rfl (fun h=>?_) (fun h=>?_)<;>try (cases h;done)))<;>try simp -implicitDefEqProofs only [go_sem])|(refine ⟨fun h=>?_,fun h=>?_⟩<;>first|(cases h;done)|try simp only [h])|fail))
 (repeat' (first|refine Run.ct rfl ?_|((first|refine Run.reg mixed ?_|refine Run.AJ ?_|(refine AH.mk rfl (A6 [41] hb2 (by simp only [AB,AA,AE];omega)) ?_;rintro _ σ3 ⟨rfl,hb3⟩)|(refine AQ rfl (fun h=>?_) (fun h=>?_)<;>try (cases h;done)))<;>try simp -implicitDefEqProofs only [go_sem])|(refine ⟨fun h=>?_,fun h=>?_⟩<;>first|(cases h;done)|try simp only [h])|fail))
 exact Run.fin Fe rfl (fun _ _ h=>h) (AM.le_refl _) ⟨rfl,hb3⟩
theorem nW {i:Nat} {ks:List Ex} (h:∀e∈ks,WC 139 [.gp i 0,exA e] i (Af e)):WC 92 [.gp i 0,.d (.sl (ks.map Ex.enc))] i (FC (ks.map Af)):=by
 intro σ0 σ s hH hbu hlen
 refine RK (by simp) ?_
 rw [BP]
 have hsep:=KG (H:=fun _=>True) i (first:=[.gp i 0]) (caps:=[]) (by kernel_rfl:Aw Tryz.prog 139=true) ⟨rfl,rfl⟩ [44,32] Af ks h
 have e1:s++FC (ks.map Af)=s++[40]++Lib.join (ks.map Af) [44,32]++[41]:=by simp [FC,Fk,cms]
 simp only [FC,Fk,cms,AB,AA,AE] at hlen
 rw [e1]
 (repeat' (first|refine Run.ct rfl ?_|((first|refine Run.reg mixed ?_|refine Run.AJ ?_|(refine AH.mk rfl (A6 [40] hbu (by simp only [AB,AE];omega)) ?_;rintro _ σ1 ⟨rfl,hb1⟩)|(refine AQ rfl (fun h=>?_) (fun h=>?_)<;>try (cases h;done)))<;>try simp -implicitDefEqProofs only [go_sem])|(refine ⟨fun h=>?_,fun h=>?_⟩<;>first|(cases h;done)|try simp only [h])|fail))
 (repeat' (first|refine Run.ct rfl ?_|((first|refine Run.reg mixed ?_|refine Run.AJ ?_|(refine AH.mk rfl (hsep σ0 σ1 _ hH hb1 (by simp only [AB,AA,AE];omega)) ?_;rintro _ σ2 ⟨rfl,hb2⟩)|(refine AQ rfl (fun h=>?_) (fun h=>?_)<;>try (cases h;done)))<;>try simp -implicitDefEqProofs only [go_sem])|(refine ⟨fun h=>?_,fun h=>?_⟩<;>first|(cases h;done)|try simp only [h])|fail))
 (repeat' (first|refine Run.ct rfl ?_|((first|refine Run.reg mixed ?_|refine Run.AJ ?_|(refine AH.mk rfl (A6 [41] hb2 (by simp only [AB,AA,AE];omega)) ?_;rintro _ σ3 ⟨rfl,hb3⟩)|(refine AQ rfl (fun h=>?_) (fun h=>?_)<;>try (cases h;done)))<;>try simp -implicitDefEqProofs only [go_sem])|(refine ⟨fun h=>?_,fun h=>?_⟩<;>first|(cases h;done)|try simp only [h])|fail))
 exact Run.fin Jz rfl (fun _ _ h=>h) (AM.le_refl _) ⟨rfl,hb3⟩
theorem AAV (a b c d e f:AV):At [a,b,c,d,e,f]=put 0 a (put 1 b (put 2 c (put 3 d (put 4 e (put 5 f U))))):=by
 funext s;simp only [At,put,U]
 match s with|0=>rfl|1=>rfl|2=>rfl|3=>rfl|4=>rfl|5=>rfl|n+6=>simp
theorem Yw {i:Nat} (x y z:Str) {a b:Ex} (ha:WC 139 [.gp i 0,exA a] i (Af a)) (hb:WC 139 [.gp i 0,exA b] i (Af b)):
 WC 141 [.gp i 0,.d (.str x),exA a,.d (.str y),exA b,.d (.str z)] i (x++(Af a++(y++(Af b++z)))):=by
 intro σ0 σ s hH hbu hlen
 refine QL (by simp) ?_
 rw [AAV]
 simp only [AA] at hlen
 have e1:s++(x++(Af a++(y++(Af b++z))))=s++x++Af a++y++Af b++z:=by simp only [AT]
 rw [e1]
 have ha:=fun σ1 hb1=>ha σ0 σ1 (s++x) hH hb1 (by simp only [AA];omega)
 have hb:=fun σ1 hb1=>hb σ0 σ1 (s++x++Af a++y) hH hb1 (by simp only [AA];omega)
 generalize Af a=ta at ha hb hlen ⊢
 generalize Af b=tb at hb hlen ⊢
 obtain ⟨o,n,u,ns,ks,al⟩:=a
 obtain ⟨o',n',u',ns',ks',al'⟩:=b
 simp only [exA,Ex.A2,AF,AI] at ha hb ⊢
 (repeat' (first|refine Run.ct rfl ?_|((first|refine Run.reg mixed ?_|refine Run.AJ ?_|(refine AH.mk rfl (A6 x hbu (by omega)) ?_;rintro _ σ1 ⟨rfl,hb1⟩)|(refine AQ rfl (fun h=>?_) (fun h=>?_)<;>try (cases h;done)))<;>try simp -implicitDefEqProofs only [go_sem])|(refine ⟨fun h=>?_,fun h=>?_⟩<;>first|(cases h;done)|try simp only [h])|fail))
 (repeat' (first|refine Run.ct rfl ?_|((first|refine Run.reg mixed ?_|refine Run.AJ ?_|(refine AH.mk rfl (ha σ1 hb1) ?_;rintro _ σ2 ⟨rfl,hb2⟩)|(refine AQ rfl (fun h=>?_) (fun h=>?_)<;>try (cases h;done)))<;>try simp -implicitDefEqProofs only [go_sem])|(refine ⟨fun h=>?_,fun h=>?_⟩<;>first|(cases h;done)|try simp only [h])|fail))
 (repeat' (first|refine Run.ct rfl ?_|((first|refine Run.reg mixed ?_|refine Run.AJ ?_|(refine AH.mk rfl (A6 y hb2 (by simp only [AA];omega)) ?_;rintro _ σ3 ⟨rfl,hb3⟩)|(refine AQ rfl (fun h=>?_) (fun h=>?_)<;>try (cases h;done)))<;>try simp -implicitDefEqProofs only [go_sem])|(refine ⟨fun h=>?_,fun h=>?_⟩<;>first|(cases h;done)|try simp only [h])|fail))
 (repeat' (first|refine Run.ct rfl ?_|((first|refine Run.reg mixed ?_|refine Run.AJ ?_|(refine AH.mk rfl (hb σ3 hb3) ?_;rintro _ σ4 ⟨rfl,hb4⟩)|(refine AQ rfl (fun h=>?_) (fun h=>?_)<;>try (cases h;done)))<;>try simp -implicitDefEqProofs only [go_sem])|(refine ⟨fun h=>?_,fun h=>?_⟩<;>first|(cases h;done)|try simp only [h])|fail))
 (repeat' (first|refine Run.ct rfl ?_|((first|refine Run.reg mixed ?_|refine Run.AJ ?_|(refine AH.mk rfl (A6 z hb4 (by simp only [AA];omega)) ?_;rintro _ σ5 ⟨rfl,hb5⟩)|(refine AQ rfl (fun h=>?_) (fun h=>?_)<;>try (cases h;done)))<;>try simp -implicitDefEqProofs only [go_sem])|(refine ⟨fun h=>?_,fun h=>?_⟩<;>first|(cases h;done)|try simp only [h])|fail))
 exact Run.fin JS rfl (fun _ _ h=>h) (AM.le_refl _) ⟨rfl,hb5⟩
end Go.Ab
