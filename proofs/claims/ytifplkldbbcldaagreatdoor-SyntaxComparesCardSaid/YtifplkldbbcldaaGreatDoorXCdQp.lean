/- The compact codes of the functions of this seat, computed out of the translation. Conditions: none. -/
import Derived.Test.YtifplkldbbcldaaGreatDoorProg
import Derived.KernelRfl
import Derived.Test.YtifplkldbbcldaaGreatDoorXQm
set_option linter.unusedSimpArgs false
set_option linter.unusedVariables false
set_option maxRecDepth 4000
set_option maxHeartbeats 8000000
namespace Go.Ab
open Go.Proofs
variable {args:List AV} {σ:AM} {K:AV→AM→Prop}
def Xn:C:=(.seq (.reg [Qo 2 (.al [.AW,.AW] false),
 Qo 3 (.mv (.c (.d (.int .i64 0)))),
 Qo 4 (.mv (.c (.d (.int .i64 0))))] [0,2])
 (.seq (.reg [Qm 11 0,
 Qo 12 (.call 21 [(.t 11)]),
 Qm 10 12,
 Qo 13 (.ext (.t 10) 0),
 Qo 14 (.ext (.t 10) 1),
 Qo 15 (.ext (.t 10) 2),
 Qm 5 13,
 Qm 6 14,
 Qm 7 15] [2,5,6,7])
 (.seq (.seq (.reg [Qm 16 7,
 Qo 17 (.bin .neq (.t 16) (.c (.d (.int .i64 0))))] [2,5,6,7,17])
 (.cond (.t 17) (.seq (.reg [Qo 18 (.bld [.AW,.AW] []),
 Qm 19 6,
 Qm 20 7,
 ⟨none,.st (.t 2) (.t 18) 2,none⟩,
 Qm 3 19,
 Qm 4 20] [2,3,4])
 .ret)
 .skip))
 (.seq (.reg [Qm 21 5,
 Qo 22 (.bld [.AW,(.d (.int .i64 0)),(.d (.bool false)),(.d (.int .i64 0))] [(0,1,(.t 21))]),
 Qo 23 (.box (.t 22) true),
 Qm 8 23] [2,8])
 (.seq (.reg [Qm 24 8,
 Qo 25 (.call 28 [(.t 24)]),
 Qo 9 (.al [.AW,.AW] false),
 ⟨none,.st (.t 9) (.t 25) 2,none⟩] [2,8,9])
 (.seq (.seq (.reg [Qm 26 8,
 Qo 27 (.nck (.t 26)),
 Qo 28 (.fld (.t 27) 2),
 Qo 29 (.ld (.t 28) none)] [2,8,9,29])
 (.cond (.t 29) (.seq (.SZ (.one (Qo 30 (.bld [.AW,.AW] []))
 (.one (Qm 31 8)
 (.one (Qo 32 (.nck (.t 31)))
 (.one (Qo 33 (.fld (.t 32) 3))
 (.alt (Qo 34 (.ld (.t 33) none))
 (.one ⟨none,.st (.t 2) (.t 30) 2,none⟩
 (.one (Qm 3 34)
 (.one (Qo 4 (.mv (.c (.d (.int .i64 2)))))
 .done)))
 (.alt ⟨none,.st (.t 2) (.t 30) 2,none⟩
 (.one (Qo 34 (.ld (.t 33) none))
 (.one (Qm 3 34)
 (.one (Qo 4 (.mv (.c (.d (.int .i64 2)))))
 .done)))
 .done)))))) [2,3,4])
 .ret)
 .skip))
 (.seq (.seq (.reg [Qo 35 (.ldl (.t 9) (some 2)),
 Qo 36 (.call 19 [(.t 35)]),
 Qo 37 (.un .not (.t 36))] [2,9,37])
 (.cond (.t 37) (.seq (.reg [Qo 38 (.bld [.AW,.AW] []),
 ⟨none,.st (.t 2) (.t 38) 2,none⟩,
 Qo 3 (.mv (.c (.d (.int .i64 0)))),
 Qo 4 (.mv (.c (.d (.int .i64 9))))] [2,3,4])
 .ret)
 .skip))
 (.seq (.reg [Qo 39 (.ldl (.t 9) (some 2)),
 ⟨none,.st (.t 2) (.t 39) 2,none⟩,
 Qo 3 (.mv (.c (.d (.int .i64 0)))),
 Qo 4 (.mv (.c (.d (.int .i64 0))))] [2,3,4])
 .ret))))))))
def Yt:List (List Nat×PT):=[([0,2],.done),([2,5,6,7],.done),([2,5,6,7,17],.done),([2,3,4],.done),([2,8],.done),([2,8,9],.done),([2,8,9,29],.done),([2,3,4],(.one 0 (.one 1 (.one 2 (.one 3 (.alt 4 (.one 5 (.one 6 (.one 7 .done))) (.alt 5 (.one 4 (.one 6 (.one 7 .done))) .done))))))),([2,9,37],.done),([2,3,4],.done),([2,3,4],.done)]
noncomputable def HZ:Cx:=⟨Tryz.prog,12,Tryz.f12,40,[23,300035,300039],[],[.c 2 (some 2),.t 3,.t 4]⟩
theorem HG:Good HZ:=⟨Tryz.func12,by kernel_rfl⟩
theorem XB:HZ.rs=[.c 2 (some 2),.t 3,.t 4]:=rfl
theorem YA (hl:args.length≤40) (h:Run HZ K [.code Xn] (Ao args) E σ):AQ Tryz.prog 12 args σ K:=
 AU (cx:=HZ) (code:=Tryz.f12.body.getD .skip) HG (by kernel_rfl) Tryz.ntmps12 hl (AY HZ _ Yt _ [] (by kernel_rfl)) h
def My:C:=(.seq (.seq (.reg [Qm 4 0,
 Qo 5 (.call 64 [(.t 4)]),
 Qo 6 (.fd (.t 5) 0 none),
 Qo 7 (.bin .neq (.t 6) (.c (.d (.int .i64 6))))] [0,2,3,7])
 (.cond (.t 7) .skip
 (.exit 0)))
 (.block 1 (.block 2 (.seq (.reg [Qm 11 0,
 Qo 12 (.call 65 [(.t 11),(.c (.d (.str [100,97,116,97])))]),
 Qm 10 12] [0,2,3,10])
 (.cond (.t 10) (.reg [Qo 13 (.fld (.t 3) 0),
 Qo 14 (.ldl (.t 13) none),
 Qm 15 0,
 Qo 16 (.call 66 [(.t 15)]),
 Qo 17 (.bsl 3 1 [(.d (.str [])),.AW,.AW] [(0,3,(.t 16))]),
 Qo 18 (.app 61 3 64 (.t 14) (.t 17)),
 Qo 19 (.fld (.t 3) 0),
 ⟨none,.st (.t 19) (.t 18) 1,none⟩] [0,2,3])
 (.seq (.reg [Qm 21 0,
 Qo 22 (.call 65 [(.t 21),(.c (.d (.str [102,117,110])))]),
 Qm 20 22] [0,2,3,20])
 (.cond (.t 20) (.reg [Qo 23 (.fld (.t 3) 1),
 Qo 24 (.ldl (.t 23) none),
 Qm 25 0,
 Qo 26 (.call 67 [(.t 25)]),
 Qo 27 (.bsl 8 1 [(.d (.str [])),.AW,(.d (.int .i64 0)),(.d (.str [])),(.d (.int .i64 0)),.AW,.AW,.AW] [(0,8,(.t 26))]),
 Qo 28 (.app 66 8 144 (.t 24) (.t 27)),
 Qo 29 (.fld (.t 3) 1),
 ⟨none,.st (.t 29) (.t 28) 1,none⟩] [0,2,3])
 (.reg [Qm 8 0,
 Qo 9 (.call 68 [(.t 8)])] [0,2,3]))))))))
def Ie:C:=(.seq (.reg [Qo 2 (.al [.AW,.AW] false)] [0,2])
 (.seq (.reg [Qo 3 (.al [.AW,.AW] false)] [0,2,3])
 (.seq (.block 0 (.loop My))
 (.seq (.reg [Qo 30 (.ldl (.t 3) (some 2)),
 ⟨none,.st (.t 2) (.t 30) 2,none⟩] [2])
 .ret))))
noncomputable def Bh:Cx:=⟨Tryz.prog,28,Tryz.f28,31,[300014,300024,300030],[],[.c 2 (some 2)]⟩
theorem Il:Good Bh:=⟨Tryz.func28,by kernel_rfl⟩
theorem O9:Bh.rs=[.c 2 (some 2)]:=rfl
theorem PA (hl:args.length≤31) (h:Run Bh K [.code Ie] (Ao args) E σ):AQ Tryz.prog 28 args σ K:=
 AU (cx:=Bh) (code:=Tryz.f28.body.getD .skip) Il (by kernel_rfl) Tryz.ntmps28 hl (AY Bh _ (As Ie) _ [] (by kernel_rfl)) h
def LD:C:=(.seq (.reg [Qo 2 (.al [(.d (.int .i64 0)),(.d (.str [])),(.d (.int .i64 0))] false)] [0,2])
 (.seq (.reg [Qm 3 0,
 Qo 4 (.nck (.t 3)),
 Qo 5 (.fld (.t 4) 0),
 Qo 6 (.ld (.t 5) none),
 Qm 7 0,
 Qo 8 (.nck (.t 7)),
 Qo 9 (.fld (.t 8) 1),
 Qo 10 (.ld (.t 9) none),
 Qo 11 (.ix (.t 6) (.t 10) 3),
 Qo 12 (.ld (.t 11) (some 3)),
 ⟨none,.st (.t 2) (.t 12) 3,none⟩] [2])
 .ret))
noncomputable def EM:Cx:=⟨Tryz.prog,64,Tryz.f64,13,[],[],[.c 2 (some 3)]⟩
theorem LV:Good EM:=⟨Tryz.func64,by kernel_rfl⟩
theorem R0:EM.rs=[.c 2 (some 3)]:=rfl
theorem SF (hl:args.length≤13) (h:Run EM K [.code LD] (Ao args) E σ):AQ Tryz.prog 64 args σ K:=
 AU (cx:=EM) (code:=Tryz.f64.body.getD .skip) LV (by kernel_rfl) Tryz.ntmps64 hl (AY EM _ (As LD) _ [] (by kernel_rfl)) h
def JK:C:=(.seq (.reg [Qo 4 (.mv (.c (.d (.bool false))))] [0,1])
 (.seq (.seq (.reg [Qm 5 0,
 Qo 6 (.call 64 [(.t 5)]),
 Qo 7 (.fd (.t 6) 1 none),
 Qm 8 1,
 Qo 9 (.bin .neq (.t 7) (.t 8))] [0,9])
 (.cond (.t 9) (.seq (.reg [Qo 4 (.mv (.c (.d (.bool false))))] [4])
 .ret)
 .skip))
 (.seq (.reg [Qm 10 0,
 Qo 11 (.nck (.t 10)),
 Qo 12 (.fld (.t 11) 1),
 Qo 13 (.ld (.t 12) none),
 Qo 14 (.bin .add (.t 13) (.c (.d (.int .i64 1)))),
 Qo 15 (.nck (.t 10)),
 Qo 16 (.fld (.t 15) 1),
 ⟨none,.st (.t 16) (.t 14) 1,none⟩] [])
 (.seq (.reg [Qo 4 (.mv (.c (.d (.bool true))))] [4])
 .ret))))
noncomputable def DY:Cx:=⟨Tryz.prog,65,Tryz.f65,17,[],[],[.t 4]⟩
theorem GR:Good DY:=⟨Tryz.func65,by kernel_rfl⟩
theorem PZ:DY.rs=[.t 4]:=rfl
theorem J3 (hl:args.length≤17) (h:Run DY K [.code JK] (Ao args) E σ):AQ Tryz.prog 65 args σ K:=
 AU (cx:=DY) (code:=Tryz.f65.body.getD .skip) GR (by kernel_rfl) Tryz.ntmps65 hl (AY DY _ (As JK) _ [] (by kernel_rfl)) h
def Kz:C:=(.seq (.reg [Qo 2 (.al [(.d (.str [])),.AW,.AW] false)] [0,2])
 (.seq (.reg [Qm 4 0,
 Qo 5 (.call 124 [(.t 4),(.c (.d (.int .i64 2)))]),
 Qo 6 (.bld [(.d (.str [])),.AW,.AW] [(0,1,(.t 5))]),
 Qo 3 (.al [(.d (.str [])),.AW,.AW] false),
 ⟨none,.st (.t 3) (.t 6) 3,none⟩] [0,2,3])
 (.seq (.reg [Qm 7 0,
 Qm 8 0,
 Qo 9 (.mkf 126 [(.t 8)] []),
 Qo 10 (.call 125 [(.t 7),(.t 9)]),
 Qo 11 (.fld (.t 3) 1),
 ⟨none,.st (.t 11) (.t 10) 1,none⟩] [0,2,3])
 (.seq (.reg [Qm 12 0,
 Qo 13 (.call 127 [(.t 12),(.c (.d (.str [61])))])] [0,2,3])
 (.seq (.reg [Qm 14 0,
 Qm 15 0,
 Qo 16 (.mkf 129 [(.t 15)] []),
 Qo 17 (.call 128 [(.t 14),(.c (.d (.str [124]))),(.t 16)]),
 Qo 18 (.fld (.t 3) 2),
 ⟨none,.st (.t 18) (.t 17) 1,none⟩] [0,2,3])
 (.seq (.reg [Qm 19 0,
 Qo 20 (.call 127 [(.t 19),(.c (.d (.str [59])))])] [2,3])
 (.seq (.reg [Qo 21 (.ldl (.t 3) (some 3)),
 ⟨none,.st (.t 2) (.t 21) 3,none⟩] [2])
 .ret)))))))
noncomputable def EH:Cx:=⟨Tryz.prog,66,Tryz.f66,22,[300021],[],[.c 2 (some 3)]⟩
theorem LR:Good EH:=⟨Tryz.func66,by kernel_rfl⟩
theorem RW:EH.rs=[.c 2 (some 3)]:=rfl
theorem SB (hl:args.length≤22) (h:Run EH K [.code Kz] (Ao args) E σ):AQ Tryz.prog 66 args σ K:=
 AU (cx:=EH) (code:=Tryz.f66.body.getD .skip) LR (by kernel_rfl) Tryz.ntmps66 hl (AY EH _ (As Kz) _ [] (by kernel_rfl)) h
def MJ:C:=(.seq (.reg [Qo 2 (.al [(.d (.str [])),.AW,(.d (.int .i64 0)),(.d (.str [])),(.d (.int .i64 0)),.AW,.AW,.AW] false)] [0,2])
 (.seq (.reg [Qm 4 0,
 Qo 5 (.call 126 [(.t 4)]),
 Qo 6 (.bld [(.d (.str [])),.AW,(.d (.int .i64 0)),(.d (.str [])),(.d (.int .i64 0)),.AW,.AW,.AW] [(0,1,(.t 5))]),
 Qo 3 (.al [(.d (.str [])),.AW,(.d (.int .i64 0)),(.d (.str [])),(.d (.int .i64 0)),.AW,.AW,.AW] false),
 ⟨none,.st (.t 3) (.t 6) 8,none⟩] [0,2,3])
 (.seq (.reg [Qm 7 0,
 Qo 8 (.call 127 [(.t 7),(.c (.d (.str [40])))])] [0,2,3])
 (.seq (.reg [Qm 9 0,
 Qm 10 0,
 Qo 11 (.mkf 126 [(.t 10)] []),
 Qo 12 (.call 130 [(.t 9),(.t 11)]),
 Qo 13 (.fld (.t 3) 1),
 ⟨none,.st (.t 13) (.t 12) 1,none⟩] [0,2,3])
 (.seq (.reg [Qm 14 0,
 Qo 15 (.call 127 [(.t 14),(.c (.d (.str [61])))])] [0,2,3])
 (.seq (.reg [Qm 16 0,
 Qo 17 (.call 131 [(.t 16)]),
 Qo 18 (.fld (.t 3) 2),
 ⟨none,.st (.t 18) (.t 17) 6,none⟩] [0,2,3])
 (.seq (.reg [Qm 19 0,
 Qo 20 (.call 127 [(.t 19),(.c (.d (.str [59])))])] [2,3])
 (.seq (.reg [Qo 21 (.ldl (.t 3) (some 8)),
 ⟨none,.st (.t 2) (.t 21) 8,none⟩] [2])
 .ret))))))))
noncomputable def E9:Cx:=⟨Tryz.prog,67,Tryz.f67,22,[300021],[],[.c 2 (some 8)]⟩
theorem MR:Good E9:=⟨Tryz.func67,by kernel_rfl⟩
theorem S4:E9.rs=[.c 2 (some 8)]:=rfl
theorem TJ (hl:args.length≤22) (h:Run E9 K [.code MJ] (Ao args) E σ):AQ Tryz.prog 67 args σ K:=
 AU (cx:=E9) (code:=Tryz.f67.body.getD .skip) MR (by kernel_rfl) Tryz.ntmps67 hl (AY E9 _ (As MJ) _ [] (by kernel_rfl)) h
def LB:C:=(.seq (.seq (.reg [Qm 2 0,
 Qo 3 (.nck (.t 2)),
 Qo 4 (.fld (.t 3) 2),
 Qo 5 (.ld (.t 4) none),
 Qo 6 (.un .not (.t 5))] [0,6])
 (.cond (.t 6) (.reg [Qm 7 0,
 Qm 8 0,
 Qm 9 0,
 Qo 10 (.call 64 [(.t 9)]),
 Qo 11 (.fd (.t 10) 2 none),
 Qo 12 (.nck (.t 7)),
 Qo 13 (.fld (.t 12) 2),
 ⟨none,.st (.t 13) (.c (.d (.bool true))) 1,none⟩,
 Qo 14 (.nck (.t 8)),
 Qo 15 (.fld (.t 14) 3),
 ⟨none,.st (.t 15) (.t 11) 1,none⟩] [0])
 .skip))
 (.reg [Qm 16 0,
 Qm 17 0,
 Qo 18 (.nck (.t 17)),
 Qo 19 (.fld (.t 18) 0),
 Qo 20 (.ld (.t 19) none),
 Qo 21 (.len (.t 20)),
 Qo 22 (.bin .sub (.t 21) (.c (.d (.int .i64 1)))),
 Qo 23 (.nck (.t 16)),
 Qo 24 (.fld (.t 23) 1),
 ⟨none,.st (.t 24) (.t 22) 1,none⟩] []))
noncomputable def EJ:Cx:=⟨Tryz.prog,68,Tryz.f68,25,[],[],[]⟩
theorem HM:Good EJ:=⟨Tryz.func68,by kernel_rfl⟩
theorem RY:EJ.rs=[]:=rfl
theorem SD (hl:args.length≤25) (h:Run EJ K [.code LB] (Ao args) E σ):AQ Tryz.prog 68 args σ K:=
 AU (cx:=EJ) (code:=Tryz.f68.body.getD .skip) HM (by kernel_rfl) Tryz.ntmps68 hl (AY EJ _ (As LB) _ [] (by kernel_rfl)) h
def Jy:C:=(.seq (.reg [Qo 2 (.mv (.c (.d (.str []))))] [0])
 (.seq (.seq (.reg [Qm 3 0] [3])
 (.block 0 (.seq (.reg [Qo 5 (.bin .eql (.t 3) (.c (.d (.int .i64 1)))),
 Qm 4 5] [3,4])
 (.cond (.t 4) (.seq (.reg [Qo 2 (.mv (.c (.d (.str [43]))))] [2])
 .ret)
 (.seq (.reg [Qo 7 (.bin .eql (.t 3) (.c (.d (.int .i64 2)))),
 Qm 6 7] [3,6])
 (.cond (.t 6) (.seq (.reg [Qo 2 (.mv (.c (.d (.str [45]))))] [2])
 .ret)
 (.seq (.reg [Qo 9 (.bin .eql (.t 3) (.c (.d (.int .i64 3)))),
 Qm 8 9] [3,8])
 (.cond (.t 8) (.seq (.reg [Qo 2 (.mv (.c (.d (.str [42]))))] [2])
 .ret)
 (.seq (.reg [Qo 11 (.bin .eql (.t 3) (.c (.d (.int .i64 4)))),
 Qm 10 11] [3,10])
 (.cond (.t 10) (.seq (.reg [Qo 2 (.mv (.c (.d (.str [47]))))] [2])
 .ret)
 (.seq (.reg [Qo 13 (.bin .eql (.t 3) (.c (.d (.int .i64 5)))),
 Qm 12 13] [3,12])
 (.cond (.t 12) (.seq (.reg [Qo 2 (.mv (.c (.d (.str [37]))))] [2])
 .ret)
 (.seq (.reg [Qo 15 (.bin .eql (.t 3) (.c (.d (.int .i64 6)))),
 Qm 14 15] [3,14])
 (.cond (.t 14) (.seq (.reg [Qo 2 (.mv (.c (.d (.str [60]))))] [2])
 .ret)
 (.seq (.reg [Qo 17 (.bin .eql (.t 3) (.c (.d (.int .i64 7)))),
 Qm 16 17] [16])
 (.cond (.t 16) (.seq (.reg [Qo 2 (.mv (.c (.d (.str [60,61]))))] [2])
 .ret)
 .skip))))))))))))))))
 (.seq (.reg [Qo 2 (.mv (.c (.d (.str [61,61]))))] [2])
 .ret)))
noncomputable def Da:Cx:=⟨Tryz.prog,91,Tryz.f91,18,[],[],[.t 2]⟩
theorem KL:Good Da:=⟨Tryz.func91,by kernel_rfl⟩
theorem Q1:Da.rs=[.t 2]:=rfl
theorem RB (hl:args.length≤18) (h:Run Da K [.code Jy] (Ao args) E σ):AQ Tryz.prog 91 args σ K:=
 AU (cx:=Da) (code:=Tryz.f91.body.getD .skip) KL (by kernel_rfl) Tryz.ntmps91 hl (AY Da _ (As Jy) _ [] (by kernel_rfl)) h
def LH:C:=(.seq (.reg [Qo 4 (.mv (.c (.d (.str []))))] [0,1])
 (.seq (.reg [Qm 6 0,
 Qo 7 (.call 64 [(.t 6)]),
 Qo 5 (.al [(.d (.int .i64 0)),(.d (.str [])),(.d (.int .i64 0))] false),
 ⟨none,.st (.t 5) (.t 7) 3,none⟩] [0,1,5])
 (.seq (.seq (.reg [Qo 8 (.fld (.t 5) 0),
 Qo 9 (.ldl (.t 8) none),
 Qm 10 1,
 Qo 11 (.bin .neq (.t 9) (.t 10))] [0,5,11])
 (.cond (.t 11) (.seq (.reg [Qm 12 0,
 Qo 13 (.call 68 [(.t 12)])] [])
 (.seq (.reg [Qo 4 (.mv (.c (.d (.str []))))] [4])
 .ret))
 .skip))
 (.seq (.reg [Qm 14 0,
 Qo 15 (.nck (.t 14)),
 Qo 16 (.fld (.t 15) 1),
 Qo 17 (.ld (.t 16) none),
 Qo 18 (.bin .add (.t 17) (.c (.d (.int .i64 1)))),
 Qo 19 (.nck (.t 14)),
 Qo 20 (.fld (.t 19) 1),
 ⟨none,.st (.t 20) (.t 18) 1,none⟩] [5])
 (.seq (.reg [Qo 21 (.fld (.t 5) 1),
 Qo 22 (.ldl (.t 21) none),
 Qm 4 22] [4])
 .ret)))))
noncomputable def EP:Cx:=⟨Tryz.prog,124,Tryz.f124,23,[300009,300022],[],[.t 4]⟩
theorem HN:Good EP:=⟨Tryz.func124,by kernel_rfl⟩
theorem R3:EP.rs=[.t 4]:=rfl
theorem SI (hl:args.length≤23) (h:Run EP K [.code LH] (Ao args) E σ):AQ Tryz.prog 124 args σ K:=
 AU (cx:=EP) (code:=Tryz.f124.body.getD .skip) HN (by kernel_rfl) Tryz.ntmps124 hl (AY EP _ (As LH) _ [] (by kernel_rfl)) h
def JJ:C:=(.seq (.reg [Qo 4 (.mv (.c .AW))] [0,1])
 (.seq (.seq (.reg [Qm 5 0,
 Qo 6 (.call 65 [(.t 5),(.c (.d (.str [40])))]),
 Qo 7 (.un .not (.t 6))] [0,1,7])
 (.cond (.t 7) (.seq (.reg [Qo 4 (.mv (.c .AW))] [4])
 .ret)
 .skip))
 (.seq (.reg [Qm 8 0,
 Qm 9 1,
 Qo 10 (.call 166 [(.t 8),(.t 9)]),
 Qm 4 10] [4])
 .ret)))
noncomputable def DX:Cx:=⟨Tryz.prog,125,Tryz.f125,11,[],[],[.t 4]⟩
theorem GQ:Good DX:=⟨Tryz.func125,by kernel_rfl⟩
theorem PY:DX.rs=[.t 4]:=rfl
theorem QI (hl:args.length≤11) (h:Run DX K [.code JJ] (Ao args) E σ):AQ Tryz.prog 125 args σ K:=
 AU (cx:=DX) (code:=Tryz.f125.body.getD .skip) GQ (by kernel_rfl) Tryz.ntmps125 hl (AY DX _ (As JJ) _ [] (by kernel_rfl)) h
def LC:C:=(.seq (.reg [Qo 2 (.mv (.c (.d (.str []))))] [0])
 (.seq (.reg [Qm 3 0,
 Qo 4 (.call 124 [(.t 3),(.c (.d (.int .i64 1)))]),
 Qm 2 4] [2])
 .ret))
noncomputable def EL:Cx:=⟨Tryz.prog,126,Tryz.f126,5,[],[],[.t 2]⟩
theorem LU:Good EL:=⟨Tryz.func126,by kernel_rfl⟩
theorem RZ:EL.rs=[.t 2]:=rfl
theorem SE (hl:args.length≤5) (h:Run EL K [.code LC] (Ao args) E σ):AQ Tryz.prog 126 args σ K:=
 AU (cx:=EL) (code:=Tryz.f126.body.getD .skip) LU (by kernel_rfl) Tryz.ntmps126 hl (AY EL _ (As LC) _ [] (by kernel_rfl)) h
def JN:C:=(.seq (.reg [Qm 4 0,
 Qm 5 1,
 Qo 6 (.call 65 [(.t 4),(.t 5)]),
 Qo 7 (.un .not (.t 6))] [0,7])
 (.cond (.t 7) (.reg [Qm 8 0,
 Qo 9 (.call 68 [(.t 8)])] [])
 .skip))
noncomputable def DZ:Cx:=⟨Tryz.prog,127,Tryz.f127,10,[],[],[]⟩
theorem GS:Good DZ:=⟨Tryz.func127,by kernel_rfl⟩
theorem P0:DZ.rs=[]:=rfl
theorem QJ (hl:args.length≤10) (h:Run DZ K [.code JN] (Ao args) E σ):AQ Tryz.prog 127 args σ K:=
 AU (cx:=DZ) (code:=Tryz.f127.body.getD .skip) GS (by kernel_rfl) Tryz.ntmps127 hl (AY DZ _ (As JN) _ [] (by kernel_rfl)) h
def Kw:C:=(.seq (.seq (.reg [Qm 11 0,
 Qm 12 1,
 Qo 13 (.call 65 [(.t 11),(.t 12)])] [0,1,2,7,13])
 (.cond (.t 13) .skip
 (.exit 0)))
 (.block 1 (.reg [Qm 14 7,
 Qm 15 2,
 Qo 16 (.DI (.t 15) []),
 Qo 17 (.bsl 2 1 [(.d (.str [])),.AW] [(0,2,(.t 16))]),
 Qo 18 (.app 72 2 40 (.t 14) (.t 17)),
 Qm 7 18] [0,1,2,7])))
def HA:C:=(.seq (.reg [Qo 6 (.mv (.c .AW))] [0,1,2])
 (.seq (.reg [Qm 8 2,
 Qo 9 (.DI (.t 8) []),
 Qo 10 (.Mt 72 2 1 [(.d (.str [])),.AW] [(0,2,(.t 9))]),
 Qm 7 10] [0,1,2,7])
 (.seq (.block 0 (.loop Kw))
 (.seq (.reg [Qm 19 7,
 Qm 6 19] [6])
 .ret))))
noncomputable def CY:Cx:=⟨Tryz.prog,128,Tryz.f128,20,[10],[],[.t 6]⟩
theorem HI:Good CY:=⟨Tryz.func128,by kernel_rfl⟩
theorem Mh:CY.rs=[.t 6]:=rfl
theorem NR (hl:args.length≤20) (h:Run CY K [.code HA] (Ao args) E σ):AQ Tryz.prog 128 args σ K:=
 AU (cx:=CY) (code:=Tryz.f128.body.getD .skip) HI (by kernel_rfl) Tryz.ntmps128 hl (AY CY _ (As HA) _ [] (by kernel_rfl)) h
def MI:C:=(.seq (.reg [Qo 2 (.al [(.d (.str [])),.AW] false)] [0,2])
 (.seq (.reg [Qm 4 0,
 Qo 5 (.call 124 [(.t 4),(.c (.d (.int .i64 2)))]),
 Qo 6 (.bld [(.d (.str [])),.AW] [(0,1,(.t 5))]),
 Qo 3 (.al [(.d (.str [])),.AW] false),
 ⟨none,.st (.t 3) (.t 6) 2,none⟩] [0,2,3])
 (.seq (.reg [Qm 7 0,
 Qm 8 0,
 Qo 9 (.mkf 168 [(.t 8)] []),
 Qo 10 (.call 167 [(.t 7),(.t 9)]),
 Qo 11 (.fld (.t 3) 1),
 ⟨none,.st (.t 11) (.t 10) 1,none⟩] [2,3])
 (.seq (.reg [Qo 12 (.ldl (.t 3) (some 2)),
 ⟨none,.st (.t 2) (.t 12) 2,none⟩] [2])
 .ret))))
noncomputable def E8:Cx:=⟨Tryz.prog,129,Tryz.f129,13,[300012],[],[.c 2 (some 2)]⟩
theorem MQ:Good E8:=⟨Tryz.func129,by kernel_rfl⟩
theorem S3:E8.rs=[.c 2 (some 2)]:=rfl
theorem TI (hl:args.length≤13) (h:Run E8 K [.code MI] (Ao args) E σ):AQ Tryz.prog 129 args σ K:=
 AU (cx:=E8) (code:=Tryz.f129.body.getD .skip) MQ (by kernel_rfl) Tryz.ntmps129 hl (AY E8 _ (As MI) _ [] (by kernel_rfl)) h
def JE:C:=(.seq (.reg [Qo 4 (.mv (.c .AW))] [0,1])
 (.seq (.seq (.reg [Qm 5 0,
 Qo 6 (.call 65 [(.t 5),(.c (.d (.str [41])))])] [0,1,6])
 (.cond (.t 6) (.seq (.reg [Qo 4 (.mv (.c .AW))] [4])
 .ret)
 .skip))
 (.seq (.reg [Qm 7 0,
 Qm 8 1,
 Qo 9 (.call 166 [(.t 7),(.t 8)]),
 Qm 4 9] [4])
 .ret)))
noncomputable def DQ:Cx:=⟨Tryz.prog,130,Tryz.f130,10,[],[],[.t 4]⟩
theorem GM:Good DQ:=⟨Tryz.func130,by kernel_rfl⟩
theorem PS:DQ.rs=[.t 4]:=rfl
theorem QD (hl:args.length≤10) (h:Run DQ K [.code JE] (Ao args) E σ):AQ Tryz.prog 130 args σ K:=
 AU (cx:=DQ) (code:=Tryz.f130.body.getD .skip) GM (by kernel_rfl) Tryz.ntmps130 hl (AY DQ _ (As JE) _ [] (by kernel_rfl)) h
def LA:C:=(.seq (.reg [Qo 2 (.al [(.d (.int .i64 0)),(.d (.str [])),(.d (.int .i64 0)),.AW,.AW,.AW] false)] [0,2])
 (.seq (.block 0 (.seq (.reg [Qm 11 0,
 Qo 12 (.call 65 [(.t 11),(.c (.d (.str [108,101,116])))]),
 Qm 10 12] [0,2,10])
 (.cond (.t 10) (.seq (.reg [Qm 13 0,
 Qo 14 (.call 169 [(.t 13)]),
 ⟨none,.st (.t 2) (.t 14) 6,none⟩] [2])
 .ret)
 (.seq (.reg [Qm 16 0,
 Qo 17 (.call 65 [(.t 16),(.c (.d (.str [105,102])))]),
 Qm 15 17] [0,2,15])
 (.cond (.t 15) (.seq (.reg [Qm 18 0,
 Qo 19 (.call 131 [(.t 18)]),
 Qo 3 (.al [(.d (.int .i64 0)),(.d (.str [])),(.d (.int .i64 0)),.AW,.AW,.AW] false),
 ⟨none,.st (.t 3) (.t 19) 6,none⟩] [0,2,3])
 (.seq (.reg [Qm 20 0,
 Qo 21 (.call 127 [(.t 20),(.c (.d (.str [116,104,101,110])))])] [0,2,3])
 (.seq (.reg [Qm 22 0,
 Qo 23 (.call 131 [(.t 22)]),
 Qo 4 (.al [(.d (.int .i64 0)),(.d (.str [])),(.d (.int .i64 0)),.AW,.AW,.AW] false),
 ⟨none,.st (.t 4) (.t 23) 6,none⟩] [0,2,3,4])
 (.seq (.reg [Qm 24 0,
 Qo 25 (.call 127 [(.t 24),(.c (.d (.str [101,108,115,101])))])] [0,2,3,4])
 (.seq (.reg [Qo 26 (.ldl (.t 3) (some 6)),
 Qo 27 (.ldl (.t 4) (some 6)),
 Qm 28 0,
 Qo 29 (.call 131 [(.t 28)]),
 Qo 30 (.bsl 6 3 [(.d (.int .i64 0)),(.d (.str [])),(.d (.int .i64 0)),.AW,.AW,.AW,(.d (.int .i64 0)),(.d (.str [])),(.d (.int .i64 0)),.AW,.AW,.AW,(.d (.int .i64 0)),(.d (.str [])),(.d (.int .i64 0)),.AW,.AW,.AW] [(0,6,(.t 26)),(6,6,(.t 27)),(12,6,(.t 29))]),
 Qo 31 (.bld [(.d (.int .i64 0)),(.d (.str [])),(.d (.int .i64 0)),.AW,.AW,.AW] [(0,1,(.c (.d (.int .i64 9)))),(4,1,(.t 30))]),
 ⟨none,.st (.t 2) (.t 31) 6,none⟩] [2])
 .ret)))))
 (.seq (.reg [Qm 33 0,
 Qo 34 (.call 65 [(.t 33),(.c (.d (.str [109,97,116,99,104])))]),
 Qm 32 34] [0,2,32])
 (.cond (.t 32) (.seq (.reg [Qm 35 0,
 Qo 36 (.call 131 [(.t 35)]),
 Qo 37 (.bsl 6 1 [(.d (.int .i64 0)),(.d (.str [])),(.d (.int .i64 0)),.AW,.AW,.AW] [(0,6,(.t 36))]),
 Qo 38 (.bld [(.d (.int .i64 0)),(.d (.str [])),(.d (.int .i64 0)),.AW,.AW,.AW] [(0,1,(.c (.d (.int .i64 10)))),(4,1,(.t 37))]),
 Qo 5 (.al [(.d (.int .i64 0)),(.d (.str [])),(.d (.int .i64 0)),.AW,.AW,.AW] false),
 ⟨none,.st (.t 5) (.t 38) 6,none⟩] [0,2,5])
 (.seq (.reg [Qm 39 0,
 Qo 40 (.call 127 [(.t 39),(.c (.d (.str [119,105,116,104])))])] [0,2,5])
 (.seq (.reg [Qm 41 0,
 Qm 42 0,
 Qo 43 (.mkf 171 [(.t 42)] []),
 Qo 44 (.call 170 [(.t 41),(.c (.d (.str [124]))),(.t 43)]),
 Qo 45 (.fld (.t 5) 5),
 ⟨none,.st (.t 45) (.t 44) 1,none⟩] [0,2,5])
 (.seq (.reg [Qm 46 0,
 Qo 47 (.call 127 [(.t 46),(.c (.d (.str [101,110,100])))])] [2,5])
 (.seq (.reg [Qo 48 (.ldl (.t 5) (some 6)),
 ⟨none,.st (.t 2) (.t 48) 6,none⟩] [2])
 .ret)))))
 (.seq (.reg [Qm 50 0,
 Qo 51 (.call 65 [(.t 50),(.c (.d (.str [102,110])))]),
 Qm 49 51] [0,2,49])
 (.cond (.t 49) (.seq (.reg [Qm 52 0,
 Qo 53 (.call 127 [(.t 52),(.c (.d (.str [40])))])] [0,2])
 (.seq (.reg [Qm 54 0,
 Qm 55 0,
 Qo 56 (.mkf 126 [(.t 55)] []),
 Qo 57 (.call 130 [(.t 54),(.t 56)]),
 Qo 58 (.bld [(.d (.int .i64 0)),(.d (.str [])),(.d (.int .i64 0)),.AW,.AW,.AW] [(0,1,(.c (.d (.int .i64 11)))),(3,1,(.t 57))]),
 Qo 6 (.al [(.d (.int .i64 0)),(.d (.str [])),(.d (.int .i64 0)),.AW,.AW,.AW] false),
 ⟨none,.st (.t 6) (.t 58) 6,none⟩] [0,2,6])
 (.seq (.reg [Qm 59 0,
 Qo 60 (.call 127 [(.t 59),(.c (.d (.str [45,62])))])] [0,2,6])
 (.seq (.reg [Qm 61 0,
 Qo 62 (.call 131 [(.t 61)]),
 Qo 63 (.bsl 6 1 [(.d (.int .i64 0)),(.d (.str [])),(.d (.int .i64 0)),.AW,.AW,.AW] [(0,6,(.t 62))]),
 Qo 64 (.fld (.t 6) 4),
 ⟨none,.st (.t 64) (.t 63) 1,none⟩] [2,6])
 (.seq (.reg [Qo 65 (.ldl (.t 6) (some 6)),
 ⟨none,.st (.t 2) (.t 65) 6,none⟩] [2])
 .ret)))))
 (.seq (.reg [Qm 67 0,
 Qo 68 (.call 65 [(.t 67),(.c (.d (.str [116,114,121])))]),
 Qm 66 68] [0,2,66])
 (.cond (.t 66) (.seq (.reg [Qm 69 0,
 Qo 70 (.call 131 [(.t 69)]),
 Qo 7 (.al [(.d (.int .i64 0)),(.d (.str [])),(.d (.int .i64 0)),.AW,.AW,.AW] false),
 ⟨none,.st (.t 7) (.t 70) 6,none⟩] [0,2,7])
 (.seq (.reg [Qm 71 0,
 Qo 72 (.call 127 [(.t 71),(.c (.d (.str [99,97,116,99,104])))])] [0,2,7])
 (.seq (.reg [Qm 73 0,
 Qo 74 (.call 172 [(.t 73)]),
 Qm 8 74] [0,2,7,8])
 (.seq (.reg [Qm 75 0,
 Qo 76 (.call 127 [(.t 75),(.c (.d (.str [45,62])))])] [0,2,7,8])
 (.seq (.reg [Qm 77 0,
 Qo 78 (.call 131 [(.t 77)]),
 Qo 9 (.al [(.d (.int .i64 0)),(.d (.str [])),(.d (.int .i64 0)),.AW,.AW,.AW] false),
 ⟨none,.st (.t 9) (.t 78) 6,none⟩] [0,2,7,8,9])
 (.seq (.reg [Qm 79 0,
 Qo 80 (.call 127 [(.t 79),(.c (.d (.str [101,110,100])))])] [2,7,8,9])
 (.seq (.reg [Qm 81 8,
 Qo 82 (.ldl (.t 7) (some 6)),
 Qo 83 (.ldl (.t 9) (some 6)),
 Qo 84 (.bsl 6 2 [(.d (.int .i64 0)),(.d (.str [])),(.d (.int .i64 0)),.AW,.AW,.AW,(.d (.int .i64 0)),(.d (.str [])),(.d (.int .i64 0)),.AW,.AW,.AW] [(0,6,(.t 82)),(6,6,(.t 83))]),
 Qo 85 (.bld [(.d (.int .i64 0)),(.d (.str [])),(.d (.int .i64 0)),.AW,.AW,.AW] [(0,1,(.c (.d (.int .i64 17)))),(1,1,(.t 81)),(4,1,(.t 84))]),
 ⟨none,.st (.t 2) (.t 85) 6,none⟩] [2])
 .ret)))))))
 .skip)))))))))))
 (.seq (.reg [Qm 86 0,
 Qo 87 (.call 173 [(.t 86)]),
 ⟨none,.st (.t 2) (.t 87) 6,none⟩] [2])
 .ret)))
noncomputable def EI:Cx:=⟨Tryz.prog,131,Tryz.f131,88,[300026,300027,300048,300065,300082,300083],[],[.c 2 (some 6)]⟩
theorem CT:Good EI:=⟨Tryz.func131,by kernel_rfl⟩
theorem RX:EI.rs=[.c 2 (some 6)]:=rfl
theorem SC (hl:args.length≤88) (h:Run EI K [.code LA] (Ao args) E σ):AQ Tryz.prog 131 args σ K:=
 AU (cx:=EI) (code:=Tryz.f131.body.getD .skip) CT (by kernel_rfl) Tryz.ntmps131 hl (AY EI _ (As LA) _ [] (by kernel_rfl)) h
def JI:C:=(.seq (.reg [Qo 2 (.mv (.c (.d (.int .i64 0))))] [0])
 (.seq (.seq (.reg [Qm 3 0] [3])
 (.block 0 (.seq (.seq (.reg [Qo 5 (.bin .eql (.t 3) (.c (.d (.int .i64 1)))),
 Qm 4 5] [3,4])
 (.cond (.t 4) .skip
 (.reg [Qo 6 (.bin .eql (.t 3) (.c (.d (.int .i64 2)))),
 Qm 4 6] [3,4])))
 (.cond (.t 4) (.seq (.reg [Qo 2 (.mv (.c (.d (.int .i64 2))))] [2])
 .ret)
 (.seq (.seq (.reg [Qo 8 (.bin .eql (.t 3) (.c (.d (.int .i64 3)))),
 Qm 7 8] [3,7])
 (.cond (.t 7) .skip
 (.seq (.reg [Qo 9 (.bin .eql (.t 3) (.c (.d (.int .i64 4)))),
 Qm 7 9] [3,7])
 (.cond (.t 7) .skip
 (.reg [Qo 10 (.bin .eql (.t 3) (.c (.d (.int .i64 5)))),
 Qm 7 10] [7])))))
 (.cond (.t 7) (.seq (.reg [Qo 2 (.mv (.c (.d (.int .i64 3))))] [2])
 .ret)
 .skip))))))
 (.seq (.reg [Qo 2 (.mv (.c (.d (.int .i64 1))))] [2])
 .ret)))
noncomputable def DW:Cx:=⟨Tryz.prog,138,Tryz.f138,11,[],[],[.t 2]⟩
theorem GP:Good DW:=⟨Tryz.func138,by kernel_rfl⟩
theorem PX:DW.rs=[.t 2]:=rfl
theorem QH (hl:args.length≤11) (h:Run DW K [.code JI] (Ao args) E σ):AQ Tryz.prog 138 args σ K:=
 AU (cx:=DW) (code:=Tryz.f138.body.getD .skip) GP (by kernel_rfl) Tryz.ntmps138 hl (AY DW _ (As JI) _ [] (by kernel_rfl)) h
def JG:C:=(.seq (.reg [Qo 4 (.mv (.c .AW))] [0,1])
 (.seq (.reg [Qm 6 0,
 Qm 7 1,
 Qo 8 (.call 182 [(.t 6),(.c (.d (.str [44]))),(.t 7)]),
 Qm 5 8] [0,5])
 (.seq (.reg [Qm 9 0,
 Qo 10 (.call 127 [(.t 9),(.c (.d (.str [41])))])] [5])
 (.seq (.reg [Qm 11 5,
 Qm 4 11] [4])
 .ret))))
noncomputable def DS:Cx:=⟨Tryz.prog,166,Tryz.f166,12,[],[],[.t 4]⟩
theorem JX:Good DS:=⟨Tryz.func166,by kernel_rfl⟩
theorem PV:DS.rs=[.t 4]:=rfl
theorem QF (hl:args.length≤12) (h:Run DS K [.code JG] (Ao args) E σ):AQ Tryz.prog 166 args σ K:=
 AU (cx:=DS) (code:=Tryz.f166.body.getD .skip) JX (by kernel_rfl) Tryz.ntmps166 hl (AY DS _ (As JG) _ [] (by kernel_rfl)) h
def GZ:C:=(.seq (.reg [Qo 4 (.mv (.c .AW))] [0,1])
 (.seq (.seq (.reg [Qm 5 0,
 Qo 6 (.call 65 [(.t 5),(.c (.d (.str [40])))]),
 Qo 7 (.un .not (.t 6))] [0,1,7])
 (.cond (.t 7) (.seq (.reg [Qo 4 (.mv (.c .AW))] [4])
 .ret)
 .skip))
 (.seq (.reg [Qm 8 0,
 Qm 9 1,
 Qo 10 (.call 183 [(.t 8),(.t 9)]),
 Qm 4 10] [4])
 .ret)))
noncomputable def By:Cx:=⟨Tryz.prog,167,Tryz.f167,11,[],[],[.t 4]⟩
theorem EY:Good By:=⟨Tryz.func167,by kernel_rfl⟩
theorem L9:By.rs=[.t 4]:=rfl
theorem Lt (hl:args.length≤11) (h:Run By K [.code GZ] (Ao args) E σ):AQ Tryz.prog 167 args σ K:=
 AU (cx:=By) (code:=Tryz.f167.body.getD .skip) EY (by kernel_rfl) Tryz.ntmps167 hl (AY By _ (As GZ) _ [] (by kernel_rfl)) h
def TD:C:=(.seq (.reg [Qo 2 (.al [(.d (.int .i64 0)),(.d (.str [])),.AW] false)] [0,2])
 (.seq (.seq (.reg [Qm 7 0,
 Qo 8 (.call 64 [(.t 7)]),
 Qo 3 (.al [(.d (.int .i64 0)),(.d (.str [])),(.d (.int .i64 0))] false),
 ⟨none,.st (.t 3) (.t 8) 3,none⟩] [0,2,3])
 (.block 0 (.seq (.reg [Qo 10 (.fld (.t 3) 0),
 Qo 11 (.ldl (.t 10) none),
 Qo 12 (.bin .eql (.t 11) (.c (.d (.int .i64 1)))),
 Qm 9 12] [0,2,3,9])
 (.cond (.t 9) (.seq (.reg [Qm 13 0,
 Qo 14 (.call 126 [(.t 13)]),
 Qo 15 (.bld [(.d (.int .i64 0)),(.d (.str [])),.AW] [(0,1,(.c (.d (.int .i64 4)))),(1,1,(.t 14))]),
 ⟨none,.st (.t 2) (.t 15) 3,none⟩] [2])
 .ret)
 (.seq (.reg [Qo 17 (.fld (.t 3) 0),
 Qo 18 (.ldl (.t 17) none),
 Qo 19 (.bin .eql (.t 18) (.c (.d (.int .i64 2)))),
 Qm 16 19] [0,2,16])
 (.cond (.t 16) (.seq (.reg [Qm 20 0,
 Qo 21 (.call 124 [(.t 20),(.c (.d (.int .i64 2)))]),
 Qo 22 (.bld [(.d (.int .i64 0)),(.d (.str [])),.AW] [(0,1,(.c (.d (.int .i64 5)))),(1,1,(.t 21))]),
 Qo 4 (.al [(.d (.int .i64 0)),(.d (.str [])),.AW] false),
 ⟨none,.st (.t 4) (.t 22) 3,none⟩] [0,2,4])
 (.seq (.reg [Qm 23 0,
 Qm 24 0,
 Qo 25 (.mkf 168 [(.t 24)] []),
 Qo 26 (.call 167 [(.t 23),(.t 25)]),
 Qo 27 (.fld (.t 4) 2),
 ⟨none,.st (.t 27) (.t 26) 1,none⟩] [2,4])
 (.seq (.reg [Qo 28 (.ldl (.t 4) (some 3)),
 ⟨none,.st (.t 2) (.t 28) 3,none⟩] [2])
 .ret)))
 (.seq (.reg [Qm 30 0,
 Qo 31 (.call 65 [(.t 30),(.c (.d (.str [105,110,116])))]),
 Qm 29 31] [0,2,29])
 (.cond (.t 29) (.seq (.reg [Qo 32 (.bld [(.d (.int .i64 0)),(.d (.str [])),.AW] [(0,1,(.c (.d (.int .i64 1))))]),
 ⟨none,.st (.t 2) (.t 32) 3,none⟩] [2])
 .ret)
 (.seq (.reg [Qm 34 0,
 Qo 35 (.call 65 [(.t 34),(.c (.d (.str [98,111,111,108])))]),
 Qm 33 35] [0,2,33])
 (.cond (.t 33) (.seq (.reg [Qo 36 (.bld [(.d (.int .i64 0)),(.d (.str [])),.AW] [(0,1,(.c (.d (.int .i64 2))))]),
 ⟨none,.st (.t 2) (.t 36) 3,none⟩] [2])
 .ret)
 (.seq (.reg [Qm 38 0,
 Qo 39 (.call 65 [(.t 38),(.c (.d (.str [117,110,105,116])))]),
 Qm 37 39] [0,2,37])
 (.cond (.t 37) (.seq (.reg [Qo 40 (.bld [(.d (.int .i64 0)),(.d (.str [])),.AW] [(0,1,(.c (.d (.int .i64 3))))]),
 ⟨none,.st (.t 2) (.t 40) 3,none⟩] [2])
 .ret)
 (.seq (.reg [Qm 42 0,
 Qo 43 (.call 65 [(.t 42),(.c (.d (.str [97,114,114,97,121])))]),
 Qm 41 43] [0,2,41])
 (.cond (.t 41) (.seq (.reg [Qm 44 0,
 Qo 45 (.call 184 [(.t 44),(.c (.d (.int .i64 7)))]),
 ⟨none,.st (.t 2) (.t 45) 3,none⟩] [2])
 .ret)
 (.seq (.reg [Qm 47 0,
 Qo 48 (.call 65 [(.t 47),(.c (.d (.str [114,101,102])))]),
 Qm 46 48] [0,2,46])
 (.cond (.t 46) (.seq (.reg [Qm 49 0,
 Qo 50 (.call 184 [(.t 49),(.c (.d (.int .i64 8)))]),
 ⟨none,.st (.t 2) (.t 50) 3,none⟩] [2])
 .ret)
 (.seq (.reg [Qm 52 0,
 Qo 53 (.call 65 [(.t 52),(.c (.d (.str [40])))]),
 Qm 51 53] [0,2,51])
 (.cond (.t 51) (.seq (.reg [Qm 54 0,
 Qo 55 (.call 168 [(.t 54)]),
 Qo 5 (.al [(.d (.int .i64 0)),(.d (.str [])),.AW] false),
 ⟨none,.st (.t 5) (.t 55) 3,none⟩] [0,2,5])
 (.seq (.reg [Qm 56 0,
 Qo 57 (.call 127 [(.t 56),(.c (.d (.str [44])))])] [0,2,5])
 (.seq (.SZ (.one (Qo 58 (.ldl (.t 5) (some 3)))
 (.one (Qm 60 0)
 (.one (Qm 61 0)
 (.one (Qo 62 (.mkf 168 [(.t 61)] []))
 (.alt (Qo 59 (.Mt 75 3 1 [(.d (.int .i64 0)),(.d (.str [])),.AW] [(0,3,(.t 58))]))
 (.one (Qo 63 (.call 183 [(.t 60),(.t 62)]))
 (.one (Qo 64 (.app 75 3 48 (.t 59) (.t 63)))
 (.one (Qo 65 (.bld [(.d (.int .i64 0)),(.d (.str [])),.AW] [(0,1,(.c (.d (.int .i64 6)))),(2,1,(.t 64))]))
 (.one ⟨none,.st (.t 2) (.t 65) 3,none⟩
 .done))))
 (.alt (Qo 63 (.call 183 [(.t 60),(.t 62)]))
 (.one (Qo 59 (.Mt 75 3 1 [(.d (.int .i64 0)),(.d (.str [])),.AW] [(0,3,(.t 58))]))
 (.one (Qo 64 (.app 75 3 48 (.t 59) (.t 63)))
 (.one (Qo 65 (.bld [(.d (.int .i64 0)),(.d (.str [])),.AW] [(0,1,(.c (.d (.int .i64 6)))),(2,1,(.t 64))]))
 (.one ⟨none,.st (.t 2) (.t 65) 3,none⟩
 .done))))
 .done)))))) [2])
 .ret)))
 (.seq (.reg [Qm 67 0,
 Qo 68 (.call 65 [(.t 67),(.c (.d (.str [102,110])))]),
 Qm 66 68] [0,2,66])
 (.cond (.t 66) (.seq (.reg [Qm 69 0,
 Qo 70 (.call 127 [(.t 69),(.c (.d (.str [40])))])] [0,2])
 (.seq (.reg [Qm 71 0,
 Qm 72 0,
 Qo 73 (.mkf 168 [(.t 72)] []),
 Qo 74 (.call 185 [(.t 71),(.t 73)]),
 Qm 6 74] [0,2,6])
 (.seq (.reg [Qm 75 0,
 Qo 76 (.call 127 [(.t 75),(.c (.d (.str [45,62])))])] [0,2,6])
 (.seq (.reg [Qm 77 6,
 Qm 78 0,
 Qo 79 (.call 168 [(.t 78)]),
 Qo 80 (.bsl 3 1 [(.d (.int .i64 0)),(.d (.str [])),.AW] [(0,3,(.t 79))]),
 Qo 81 (.app 75 3 48 (.t 77) (.t 80)),
 Qo 82 (.bld [(.d (.int .i64 0)),(.d (.str [])),.AW] [(0,1,(.c (.d (.int .i64 9)))),(2,1,(.t 81))]),
 ⟨none,.st (.t 2) (.t 82) 3,none⟩] [2])
 .ret))))
 .skip))))))))))))))))))))
 (.seq (.reg [Qm 83 0,
 Qo 84 (.call 68 [(.t 83)])] [2])
 (.seq (.reg [Qo 85 (.bld [(.d (.int .i64 0)),(.d (.str [])),.AW] []),
 ⟨none,.st (.t 2) (.t 85) 3,none⟩] [2])
 .ret))))
def T1:List (List Nat×PT):=[([0,2],.done),([0,2,3],.done),([0,2,3,9],.done),([2],.done),([0,2,16],.done),([0,2,4],.done),([2,4],.done),([2],.done),([0,2,29],.done),([2],.done),([0,2,33],.done),([2],.done),([0,2,37],.done),([2],.done),([0,2,41],.done),([2],.done),([0,2,46],.done),([2],.done),([0,2,51],.done),([0,2,5],.done),([0,2,5],.done),([2],(.one 0 (.one 2 (.one 3 (.one 4 (.alt 1 (.one 5 (.one 6 (.one 7 (.one 8 .done)))) (.alt 5 (.one 1 (.one 6 (.one 7 (.one 8 .done)))) .done))))))),([0,2,66],.done),([0,2],.done),([0,2,6],.done),([0,2,6],.done),([2],.done),([2],.done),([2],.done)]
noncomputable def Ec:Cx:=⟨Tryz.prog,168,Tryz.f168,86,[59,300011,300018,300028,300058],[],[.c 2 (some 3)]⟩
theorem BJ:Good Ec:=⟨Tryz.func168,by kernel_rfl⟩
theorem S7:Ec.rs=[.c 2 (some 3)]:=rfl
theorem TM (hl:args.length≤86) (h:Run Ec K [.code TD] (Ao args) E σ):AQ Tryz.prog 168 args σ K:=
 AU (cx:=Ec) (code:=Tryz.f168.body.getD .skip) BJ (by kernel_rfl) Tryz.ntmps168 hl (AY Ec _ T1 _ [] (by kernel_rfl)) h
def MK:C:=(.seq (.reg [Qo 2 (.al [(.d (.int .i64 0)),(.d (.str [])),(.d (.int .i64 0)),.AW,.AW,.AW] false)] [0,2])
 (.seq (.reg [Qo 3 (.al [(.d (.int .i64 0)),(.d (.str [])),(.d (.int .i64 0)),.AW,.AW,.AW] false)] [0,2,3])
 (.seq (.seq (.reg [Qm 6 0,
 Qo 7 (.call 65 [(.t 6),(.c (.d (.str [40])))])] [0,2,3,7])
 (.cond (.t 7) (.seq (.reg [Qm 8 0,
 Qo 9 (.call 172 [(.t 8)]),
 Qm 4 9] [0,2,3,4])
 (.seq (.reg [Qm 10 0,
 Qo 11 (.call 127 [(.t 10),(.c (.d (.str [44])))])] [0,2,3,4])
 (.reg [Qm 12 4,
 Qo 13 (.Mt 9 1 1 [(.d (.str []))] [(0,1,(.t 12))]),
 Qm 14 0,
 Qm 15 0,
 Qo 16 (.mkf 172 [(.t 15)] []),
 Qo 17 (.call 166 [(.t 14),(.t 16)]),
 Qo 18 (.app 9 1 16 (.t 13) (.t 17)),
 Qo 19 (.fld (.t 3) 0),
 ⟨none,.st (.t 19) (.c (.d (.int .i64 8))) 1,none⟩,
 Qo 20 (.fld (.t 3) 3),
 ⟨none,.st (.t 20) (.t 18) 1,none⟩] [0,2,3])))
 (.reg [Qm 21 0,
 Qo 22 (.call 172 [(.t 21)]),
 Qo 23 (.fld (.t 3) 0),
 ⟨none,.st (.t 23) (.c (.d (.int .i64 7))) 1,none⟩,
 Qo 24 (.fld (.t 3) 1),
 ⟨none,.st (.t 24) (.t 22) 1,none⟩] [0,2,3])))
 (.seq (.reg [Qm 25 0,
 Qo 26 (.call 127 [(.t 25),(.c (.d (.str [61])))])] [0,2,3])
 (.seq (.reg [Qm 27 0,
 Qo 28 (.call 131 [(.t 27)]),
 Qo 5 (.al [(.d (.int .i64 0)),(.d (.str [])),(.d (.int .i64 0)),.AW,.AW,.AW] false),
 ⟨none,.st (.t 5) (.t 28) 6,none⟩] [0,2,3,5])
 (.seq (.reg [Qm 29 0,
 Qo 30 (.call 127 [(.t 29),(.c (.d (.str [105,110])))])] [0,2,3,5])
 (.seq (.reg [Qo 31 (.ldl (.t 5) (some 6)),
 Qm 32 0,
 Qo 33 (.call 131 [(.t 32)]),
 Qo 34 (.bsl 6 2 [(.d (.int .i64 0)),(.d (.str [])),(.d (.int .i64 0)),.AW,.AW,.AW,(.d (.int .i64 0)),(.d (.str [])),(.d (.int .i64 0)),.AW,.AW,.AW] [(0,6,(.t 31)),(6,6,(.t 33))]),
 Qo 35 (.fld (.t 3) 4),
 ⟨none,.st (.t 35) (.t 34) 1,none⟩] [2,3])
 (.seq (.reg [Qo 36 (.ldl (.t 3) (some 6)),
 ⟨none,.st (.t 2) (.t 36) 6,none⟩] [2])
 .ret))))))))
noncomputable def Ea:Cx:=⟨Tryz.prog,169,Tryz.f169,37,[13,300031,300036],[],[.c 2 (some 6)]⟩
theorem Hl:Good Ea:=⟨Tryz.func169,by kernel_rfl⟩
theorem S5:Ea.rs=[.c 2 (some 6)]:=rfl
theorem TK (hl:args.length≤37) (h:Run Ea K [.code MK] (Ao args) E σ):AQ Tryz.prog 169 args σ K:=
 AU (cx:=Ea) (code:=Tryz.f169.body.getD .skip) Hl (by kernel_rfl) Tryz.ntmps169 hl (AY Ea _ (As MK) _ [] (by kernel_rfl)) h
def Ng:C:=(.seq (.seq (.reg [Qm 11 0,
 Qm 12 1,
 Qo 13 (.call 65 [(.t 11),(.t 12)])] [0,1,2,7,13])
 (.cond (.t 13) .skip
 (.exit 0)))
 (.block 1 (.reg [Qm 14 7,
 Qm 15 2,
 Qo 16 (.DI (.t 15) []),
 Qo 17 (.bsl 8 1 [(.d (.str [])),.AW,(.d (.int .i64 0)),(.d (.str [])),(.d (.int .i64 0)),.AW,.AW,.AW] [(0,8,(.t 16))]),
 Qo 18 (.app 112 8 144 (.t 14) (.t 17)),
 Qm 7 18] [0,1,2,7])))
def JF:C:=(.seq (.reg [Qo 6 (.mv (.c .AW))] [0,1,2])
 (.seq (.reg [Qm 8 2,
 Qo 9 (.DI (.t 8) []),
 Qo 10 (.Mt 112 8 1 [(.d (.str [])),.AW,(.d (.int .i64 0)),(.d (.str [])),(.d (.int .i64 0)),.AW,.AW,.AW] [(0,8,(.t 9))]),
 Qm 7 10] [0,1,2,7])
 (.seq (.block 0 (.loop Ng))
 (.seq (.reg [Qm 19 7,
 Qm 6 19] [6])
 .ret))))
noncomputable def DR:Cx:=⟨Tryz.prog,170,Tryz.f170,20,[10],[],[.t 6]⟩
theorem JW:Good DR:=⟨Tryz.func170,by kernel_rfl⟩
theorem PU:DR.rs=[.t 6]:=rfl
theorem QE (hl:args.length≤20) (h:Run DR K [.code JF] (Ao args) E σ):AQ Tryz.prog 170 args σ K:=
 AU (cx:=DR) (code:=Tryz.f170.body.getD .skip) JW (by kernel_rfl) Tryz.ntmps170 hl (AY DR _ (As JF) _ [] (by kernel_rfl)) h
def MH:C:=(.seq (.reg [Qo 2 (.al [(.d (.str [])),.AW,(.d (.int .i64 0)),(.d (.str [])),(.d (.int .i64 0)),.AW,.AW,.AW] false)] [0,2])
 (.seq (.reg [Qm 4 0,
 Qo 5 (.call 124 [(.t 4),(.c (.d (.int .i64 2)))]),
 Qo 6 (.bld [(.d (.str [])),.AW,(.d (.int .i64 0)),(.d (.str [])),(.d (.int .i64 0)),.AW,.AW,.AW] [(0,1,(.t 5))]),
 Qo 3 (.al [(.d (.str [])),.AW,(.d (.int .i64 0)),(.d (.str [])),(.d (.int .i64 0)),.AW,.AW,.AW] false),
 ⟨none,.st (.t 3) (.t 6) 8,none⟩] [0,2,3])
 (.seq (.reg [Qm 7 0,
 Qm 8 0,
 Qo 9 (.mkf 172 [(.t 8)] []),
 Qo 10 (.call 125 [(.t 7),(.t 9)]),
 Qo 11 (.fld (.t 3) 1),
 ⟨none,.st (.t 11) (.t 10) 1,none⟩] [0,2,3])
 (.seq (.reg [Qm 12 0,
 Qo 13 (.call 127 [(.t 12),(.c (.d (.str [45,62])))])] [0,2,3])
 (.seq (.reg [Qm 14 0,
 Qo 15 (.call 131 [(.t 14)]),
 Qo 16 (.fld (.t 3) 2),
 ⟨none,.st (.t 16) (.t 15) 6,none⟩] [2,3])
 (.seq (.reg [Qo 17 (.ldl (.t 3) (some 8)),
 ⟨none,.st (.t 2) (.t 17) 8,none⟩] [2])
 .ret))))))
noncomputable def E7:Cx:=⟨Tryz.prog,171,Tryz.f171,18,[300017],[],[.c 2 (some 8)]⟩
theorem MO:Good E7:=⟨Tryz.func171,by kernel_rfl⟩
theorem S1:E7.rs=[.c 2 (some 8)]:=rfl
theorem TG (hl:args.length≤18) (h:Run E7 K [.code MH] (Ao args) E σ):AQ Tryz.prog 171 args σ K:=
 AU (cx:=E7) (code:=Tryz.f171.body.getD .skip) MO (by kernel_rfl) Tryz.ntmps171 hl (AY E7 _ (As MH) _ [] (by kernel_rfl)) h
def Kx:C:=(.seq (.reg [Qo 2 (.mv (.c (.d (.str []))))] [0])
 (.seq (.seq (.reg [Qm 3 0,
 Qo 4 (.call 65 [(.t 3),(.c (.d (.str [95])))])] [0,4])
 (.cond (.t 4) (.seq (.reg [Qo 2 (.mv (.c (.d (.str []))))] [2])
 .ret)
 .skip))
 (.seq (.reg [Qm 5 0,
 Qo 6 (.call 126 [(.t 5)]),
 Qm 2 6] [2])
 .ret)))
noncomputable def EF:Cx:=⟨Tryz.prog,172,Tryz.f172,7,[],[],[.t 2]⟩
theorem HK:Good EF:=⟨Tryz.func172,by kernel_rfl⟩
theorem RT:EF.rs=[.t 2]:=rfl
theorem Rz (hl:args.length≤7) (h:Run EF K [.code Kx] (Ao args) E σ):AQ Tryz.prog 172 args σ K:=
 AU (cx:=EF) (code:=Tryz.f172.body.getD .skip) HK (by kernel_rfl) Tryz.ntmps172 hl (AY EF _ (As Kx) _ [] (by kernel_rfl)) h
def Ky:C:=(.seq (.reg [Qo 2 (.al [(.d (.int .i64 0)),(.d (.str [])),(.d (.int .i64 0)),.AW,.AW,.AW] false)] [0,2])
 (.seq (.reg [Qm 5 0,
 Qo 6 (.call 186 [(.t 5)]),
 Qo 3 (.al [(.d (.int .i64 0)),(.d (.str [])),(.d (.int .i64 0)),.AW,.AW,.AW] false),
 ⟨none,.st (.t 3) (.t 6) 6,none⟩] [0,2,3])
 (.seq (.seq (.reg [Qm 7 0,
 Qo 8 (.call 187 [(.t 7),(.c (.d (.int .i64 1)))]),
 Qm 4 8] [0,2,3,4])
 (.seq (.reg [Qm 9 4,
 Qo 10 (.bin .neq (.t 9) (.c (.d (.int .i64 0))))] [0,2,3,4,10])
 (.cond (.t 10) (.seq (.reg [Qm 11 4,
 Qo 12 (.ldl (.t 3) (some 6)),
 Qm 13 0,
 Qo 14 (.call 186 [(.t 13)]),
 Qo 15 (.call 188 [(.t 11),(.t 12),(.t 14)]),
 ⟨none,.st (.t 2) (.t 15) 6,none⟩] [2])
 .ret)
 .skip)))
 (.seq (.reg [Qo 16 (.ldl (.t 3) (some 6)),
 ⟨none,.st (.t 2) (.t 16) 6,none⟩] [2])
 .ret))))
noncomputable def EG:Cx:=⟨Tryz.prog,173,Tryz.f173,17,[300012,300016],[],[.c 2 (some 6)]⟩
theorem HL:Good EG:=⟨Tryz.func173,by kernel_rfl⟩
theorem RU:EG.rs=[.c 2 (some 6)]:=rfl
theorem SA (hl:args.length≤17) (h:Run EG K [.code Ky] (Ao args) E σ):AQ Tryz.prog 173 args σ K:=
 AU (cx:=EG) (code:=Tryz.f173.body.getD .skip) HL (by kernel_rfl) Tryz.ntmps173 hl (AY EG _ (As Ky) _ [] (by kernel_rfl)) h
def OT:C:=(.seq (.seq (.reg [Qm 11 0,
 Qm 12 1,
 Qo 13 (.call 65 [(.t 11),(.t 12)])] [0,1,2,7,13])
 (.cond (.t 13) .skip
 (.exit 0)))
 (.block 1 (.reg [Qm 14 7,
 Qm 15 2,
 Qo 16 (.DI (.t 15) []),
 Qo 17 (.bsl 1 1 [(.d (.str []))] [(0,1,(.t 16))]),
 Qo 18 (.app 9 1 16 (.t 14) (.t 17)),
 Qm 7 18] [0,1,2,7])))
def Jx:C:=(.seq (.reg [Qo 6 (.mv (.c .AW))] [0,1,2])
 (.seq (.reg [Qm 8 2,
 Qo 9 (.DI (.t 8) []),
 Qo 10 (.Mt 9 1 1 [(.d (.str []))] [(0,1,(.t 9))]),
 Qm 7 10] [0,1,2,7])
 (.seq (.block 0 (.loop OT))
 (.seq (.reg [Qm 19 7,
 Qm 6 19] [6])
 .ret))))
noncomputable def D9:Cx:=⟨Tryz.prog,182,Tryz.f182,20,[10],[],[.t 6]⟩
theorem KJ:Good D9:=⟨Tryz.func182,by kernel_rfl⟩
theorem Q0:D9.rs=[.t 6]:=rfl
theorem RA (hl:args.length≤20) (h:Run D9 K [.code Jx] (Ao args) E σ):AQ Tryz.prog 182 args σ K:=
 AU (cx:=D9) (code:=Tryz.f182.body.getD .skip) KJ (by kernel_rfl) Tryz.ntmps182 hl (AY D9 _ (As Jx) _ [] (by kernel_rfl)) h
def GY:C:=(.seq (.reg [Qo 4 (.mv (.c .AW))] [0,1])
 (.seq (.reg [Qm 6 0,
 Qm 7 1,
 Qo 8 (.call 196 [(.t 6),(.c (.d (.str [44]))),(.t 7)]),
 Qm 5 8] [0,5])
 (.seq (.reg [Qm 9 0,
 Qo 10 (.call 127 [(.t 9),(.c (.d (.str [41])))])] [5])
 (.seq (.reg [Qm 11 5,
 Qm 4 11] [4])
 .ret))))
noncomputable def Bx:Cx:=⟨Tryz.prog,183,Tryz.f183,12,[],[],[.t 4]⟩
theorem G1:Good Bx:=⟨Tryz.func183,by kernel_rfl⟩
theorem L8:Bx.rs=[.t 4]:=rfl
theorem Ls (hl:args.length≤12) (h:Run Bx K [.code GY] (Ao args) E σ):AQ Tryz.prog 183 args σ K:=
 AU (cx:=Bx) (code:=Tryz.f183.body.getD .skip) G1 (by kernel_rfl) Tryz.ntmps183 hl (AY Bx _ (As GY) _ [] (by kernel_rfl)) h
def Ic:C:=(.seq (.reg [Qo 4 (.al [(.d (.int .i64 0)),(.d (.str [])),.AW] false)] [0,1,4])
 (.seq (.reg [Qm 6 0,
 Qo 7 (.call 127 [(.t 6),(.c (.d (.str [40])))])] [0,1,4])
 (.seq (.reg [Qm 8 0,
 Qo 9 (.call 168 [(.t 8)]),
 Qo 5 (.al [(.d (.int .i64 0)),(.d (.str [])),.AW] false),
 ⟨none,.st (.t 5) (.t 9) 3,none⟩] [0,1,4,5])
 (.seq (.reg [Qm 10 0,
 Qo 11 (.call 127 [(.t 10),(.c (.d (.str [41])))])] [1,4,5])
 (.seq (.reg [Qm 12 1,
 Qo 13 (.ldl (.t 5) (some 3)),
 Qo 14 (.bsl 3 1 [(.d (.int .i64 0)),(.d (.str [])),.AW] [(0,3,(.t 13))]),
 Qo 15 (.bld [(.d (.int .i64 0)),(.d (.str [])),.AW] [(0,1,(.t 12)),(2,1,(.t 14))]),
 ⟨none,.st (.t 4) (.t 15) 3,none⟩] [4])
 .ret)))))
noncomputable def DA:Cx:=⟨Tryz.prog,184,Tryz.f184,16,[300013],[],[.c 4 (some 3)]⟩
theorem Ik:Good DA:=⟨Tryz.func184,by kernel_rfl⟩
theorem O8:DA.rs=[.c 4 (some 3)]:=rfl
theorem Oz (hl:args.length≤16) (h:Run DA K [.code Ic] (Ao args) E σ):AQ Tryz.prog 184 args σ K:=
 AU (cx:=DA) (code:=Tryz.f184.body.getD .skip) Ik (by kernel_rfl) Tryz.ntmps184 hl (AY DA _ (As Ic) _ [] (by kernel_rfl)) h
def GX:C:=(.seq (.reg [Qo 4 (.mv (.c .AW))] [0,1])
 (.seq (.seq (.reg [Qm 5 0,
 Qo 6 (.call 65 [(.t 5),(.c (.d (.str [41])))])] [0,1,6])
 (.cond (.t 6) (.seq (.reg [Qo 4 (.mv (.c .AW))] [4])
 .ret)
 .skip))
 (.seq (.reg [Qm 7 0,
 Qm 8 1,
 Qo 9 (.call 183 [(.t 7),(.t 8)]),
 Qm 4 9] [4])
 .ret)))
noncomputable def Bw:Cx:=⟨Tryz.prog,185,Tryz.f185,10,[],[],[.t 4]⟩
theorem EX:Good Bw:=⟨Tryz.func185,by kernel_rfl⟩
theorem L7:Bw.rs=[.t 4]:=rfl
theorem Lr (hl:args.length≤10) (h:Run Bw K [.code GX] (Ao args) E σ):AQ Tryz.prog 185 args σ K:=
 AU (cx:=Bw) (code:=Tryz.f185.body.getD .skip) EX (by kernel_rfl) Tryz.ntmps185 hl (AY Bw _ (As GX) _ [] (by kernel_rfl)) h
def Po:C:=(.seq (.seq (.reg [Qm 9 4,
 Qo 10 (.bin .neq (.t 9) (.c (.d (.int .i64 0))))] [0,2,3,4,10])
 (.cond (.t 10) .skip
 (.exit 0)))
 (.seq (.block 1 (.reg [Qm 13 4,
 Qo 14 (.ldl (.t 3) (some 6)),
 Qm 15 0,
 Qo 16 (.call 197 [(.t 15)]),
 Qo 17 (.call 188 [(.t 13),(.t 14),(.t 16)]),
 ⟨none,.st (.t 3) (.t 17) 6,none⟩] [0,2,3]))
 (.reg [Qm 11 0,
 Qo 12 (.call 187 [(.t 11),(.c (.d (.int .i64 2)))]),
 Qm 4 12] [0,2,3,4])))
def ML:C:=(.seq (.reg [Qo 2 (.al [(.d (.int .i64 0)),(.d (.str [])),(.d (.int .i64 0)),.AW,.AW,.AW] false)] [0,2])
 (.seq (.reg [Qm 5 0,
 Qo 6 (.call 197 [(.t 5)]),
 Qo 3 (.al [(.d (.int .i64 0)),(.d (.str [])),(.d (.int .i64 0)),.AW,.AW,.AW] false),
 ⟨none,.st (.t 3) (.t 6) 6,none⟩] [0,2,3])
 (.seq (.seq (.reg [Qm 7 0,
 Qo 8 (.call 187 [(.t 7),(.c (.d (.int .i64 2)))]),
 Qm 4 8] [0,2,3,4])
 (.block 0 (.loop Po)))
 (.seq (.reg [Qo 18 (.ldl (.t 3) (some 6)),
 ⟨none,.st (.t 2) (.t 18) 6,none⟩] [2])
 .ret))))
noncomputable def Eb:Cx:=⟨Tryz.prog,186,Tryz.f186,19,[300014,300018],[],[.c 2 (some 6)]⟩
theorem MS:Good Eb:=⟨Tryz.func186,by kernel_rfl⟩
theorem S6:Eb.rs=[.c 2 (some 6)]:=rfl
theorem TL (hl:args.length≤19) (h:Run Eb K [.code ML] (Ao args) E σ):AQ Tryz.prog 186 args σ K:=
 AU (cx:=Eb) (code:=Tryz.f186.body.getD .skip) MS (by kernel_rfl) Tryz.ntmps186 hl (AY Eb _ (As ML) _ [] (by kernel_rfl)) h
def M0:C:=(.seq (.seq (.reg [Qm 6 5,
 Qo 7 (.bin .leq (.t 6) (.c (.d (.int .i64 8))))] [0,1,5,7])
 (.cond (.t 7) .skip
 (.exit 0)))
 (.seq (.block 1 (.seq (.reg [Qm 10 5,
 Qo 11 (.call 138 [(.t 10)]),
 Qm 12 1,
 Qo 13 (.bin .eql (.t 11) (.t 12)),
 Qm 14 13,
 ⟨some 15,.mv (.t 0),some (14,true)⟩,
 ⟨some 16,.mv (.t 5),some (14,true)⟩,
 ⟨some 17,.call 91 [(.t 16)],some (14,true)⟩,
 ⟨some 18,.call 65 [(.t 15),(.t 17)],some (14,true)⟩,
 Qo 19 (.pick (.t 14) (.t 18) (.c (.d (.bool false))))] [0,1,5,19])
 (.cond (.t 19) (.seq (.reg [Qm 20 5,
 Qm 4 20] [4])
 .ret)
 .skip)))
 (.reg [Qm 8 5,
 Qo 9 (.bin .add (.t 8) (.c (.d (.int .i64 1)))),
 Qm 5 9] [0,1,5])))
def Hv:C:=(.seq (.reg [Qo 4 (.mv (.c (.d (.int .i64 0))))] [0,1])
 (.seq (.seq (.reg [Qo 5 (.mv (.c (.d (.int .i64 1))))] [0,1,5])
 (.block 0 (.loop M0)))
 (.seq (.reg [Qo 4 (.mv (.c (.d (.int .i64 0))))] [4])
 .ret)))
noncomputable def Cq:Cx:=⟨Tryz.prog,187,Tryz.f187,21,[],[],[.t 4]⟩
theorem F1:Good Cq:=⟨Tryz.func187,by kernel_rfl⟩
theorem Nu:Cq.rs=[.t 4]:=rfl
theorem O1 (hl:args.length≤21) (h:Run Cq K [.code Hv] (Ao args) E σ):AQ Tryz.prog 187 args σ K:=
 AU (cx:=Cq) (code:=Tryz.f187.body.getD .skip) F1 (by kernel_rfl) Tryz.ntmps187 hl (AY Cq _ (As Hv) _ [] (by kernel_rfl)) h
def Qh:C:=(.seq (.reg [Qo 4 (.box (.t 1) false),
 Qo 5 (.box (.t 2) false),
 Qo 6 (.al [(.d (.int .i64 0)),(.d (.str [])),(.d (.int .i64 0)),.AW,.AW,.AW] false)] [0,4,5,6])
 (.seq (.reg [Qm 7 0,
 Qo 8 (.ldl (.t 4) (some 6)),
 Qo 9 (.ldl (.t 5) (some 6)),
 Qo 10 (.bsl 6 2 [(.d (.int .i64 0)),(.d (.str [])),(.d (.int .i64 0)),.AW,.AW,.AW,(.d (.int .i64 0)),(.d (.str [])),(.d (.int .i64 0)),.AW,.AW,.AW] [(0,6,(.t 8)),(6,6,(.t 9))]),
 Qo 11 (.bld [(.d (.int .i64 0)),(.d (.str [])),(.d (.int .i64 0)),.AW,.AW,.AW] [(0,1,(.c (.d (.int .i64 13)))),(2,1,(.t 7)),(4,1,(.t 10))]),
 ⟨none,.st (.t 6) (.t 11) 6,none⟩] [6])
 .ret))
noncomputable def G4:Cx:=⟨Tryz.prog,188,Tryz.f188,12,[300008,300009],[],[.c 6 (some 6)]⟩
theorem Ql:Good G4:=⟨Tryz.func188,by kernel_rfl⟩
theorem WN:G4.rs=[.c 6 (some 6)]:=rfl
theorem Wr (hl:args.length≤12) (h:Run G4 K [.code Qh] (Ao args) E σ):AQ Tryz.prog 188 args σ K:=
 AU (cx:=G4) (code:=Tryz.f188.body.getD .skip) Ql (by kernel_rfl) Tryz.ntmps188 hl (AY G4 _ (As Qh) _ [] (by kernel_rfl)) h
def KZ:C:=(.seq (.seq (.reg [Qm 11 0,
 Qm 12 1,
 Qo 13 (.call 65 [(.t 11),(.t 12)])] [0,1,2,7,13])
 (.cond (.t 13) .skip
 (.exit 0)))
 (.block 1 (.reg [Qm 14 7,
 Qm 15 2,
 Qo 16 (.DI (.t 15) []),
 Qo 17 (.bsl 3 1 [(.d (.int .i64 0)),(.d (.str [])),.AW] [(0,3,(.t 16))]),
 Qo 18 (.app 75 3 48 (.t 14) (.t 17)),
 Qm 7 18] [0,1,2,7])))
def Gg:C:=(.seq (.reg [Qo 6 (.mv (.c .AW))] [0,1,2])
 (.seq (.reg [Qm 8 2,
 Qo 9 (.DI (.t 8) []),
 Qo 10 (.Mt 75 3 1 [(.d (.int .i64 0)),(.d (.str [])),.AW] [(0,3,(.t 9))]),
 Qm 7 10] [0,1,2,7])
 (.seq (.block 0 (.loop KZ))
 (.seq (.reg [Qm 19 7,
 Qm 6 19] [6])
 .ret))))
noncomputable def CK:Cx:=⟨Tryz.prog,196,Tryz.f196,20,[10],[],[.t 6]⟩
theorem Gm:Good CK:=⟨Tryz.func196,by kernel_rfl⟩
theorem Ly:CK.rs=[.t 6]:=rfl
theorem M8 (hl:args.length≤20) (h:Run CK K [.code Gg] (Ao args) E σ):AQ Tryz.prog 196 args σ K:=
 AU (cx:=CK) (code:=Tryz.f196.body.getD .skip) Gm (by kernel_rfl) Tryz.ntmps196 hl (AY CK _ (As Gg) _ [] (by kernel_rfl)) h
def Oo:C:=(.seq (.seq (.reg [Qm 9 4,
 Qo 10 (.bin .neq (.t 9) (.c (.d (.int .i64 0))))] [0,2,3,4,10])
 (.cond (.t 10) .skip
 (.exit 0)))
 (.seq (.block 1 (.reg [Qm 13 4,
 Qo 14 (.ldl (.t 3) (some 6)),
 Qm 15 0,
 Qo 16 (.call 204 [(.t 15)]),
 Qo 17 (.call 188 [(.t 13),(.t 14),(.t 16)]),
 ⟨none,.st (.t 3) (.t 17) 6,none⟩] [0,2,3]))
 (.reg [Qm 11 0,
 Qo 12 (.call 187 [(.t 11),(.c (.d (.int .i64 3)))]),
 Qm 4 12] [0,2,3,4])))
def LG:C:=(.seq (.reg [Qo 2 (.al [(.d (.int .i64 0)),(.d (.str [])),(.d (.int .i64 0)),.AW,.AW,.AW] false)] [0,2])
 (.seq (.reg [Qm 5 0,
 Qo 6 (.call 204 [(.t 5)]),
 Qo 3 (.al [(.d (.int .i64 0)),(.d (.str [])),(.d (.int .i64 0)),.AW,.AW,.AW] false),
 ⟨none,.st (.t 3) (.t 6) 6,none⟩] [0,2,3])
 (.seq (.seq (.reg [Qm 7 0,
 Qo 8 (.call 187 [(.t 7),(.c (.d (.int .i64 3)))]),
 Qm 4 8] [0,2,3,4])
 (.block 0 (.loop Oo)))
 (.seq (.reg [Qo 18 (.ldl (.t 3) (some 6)),
 ⟨none,.st (.t 2) (.t 18) 6,none⟩] [2])
 .ret))))
noncomputable def EO:Cx:=⟨Tryz.prog,197,Tryz.f197,19,[300014,300018],[],[.c 2 (some 6)]⟩
theorem LW:Good EO:=⟨Tryz.func197,by kernel_rfl⟩
theorem R2:EO.rs=[.c 2 (some 6)]:=rfl
theorem SH (hl:args.length≤19) (h:Run EO K [.code LG] (Ao args) E σ):AQ Tryz.prog 197 args σ K:=
 AU (cx:=EO) (code:=Tryz.f197.body.getD .skip) LW (by kernel_rfl) Tryz.ntmps197 hl (AY EO _ (As LG) _ [] (by kernel_rfl)) h
def JM:C:=(.seq (.seq (.reg [Qm 6 0,
 Qo 7 (.call 65 [(.t 6),(.c (.d (.str [40])))])] [0,2,3,7])
 (.cond (.t 7) .skip
 (.exit 0)))
 (.block 1 (.SZ (.one (Qo 8 (.ldl (.t 3) (some 6)))
 (.one (Qm 10 0)
 (.one (Qm 11 0)
 (.one (Qo 12 (.mkf 131 [(.t 11)] []))
 (.alt (Qo 9 (.Mt 44 6 1 [(.d (.int .i64 0)),(.d (.str [])),(.d (.int .i64 0)),.AW,.AW,.AW] [(0,6,(.t 8))]))
 (.one (Qo 13 (.call 208 [(.t 10),(.t 12)]))
 (.one (Qo 14 (.app 44 6 104 (.t 9) (.t 13)))
 (.one (Qo 15 (.bld [(.d (.int .i64 0)),(.d (.str [])),(.d (.int .i64 0)),.AW,.AW,.AW] [(0,1,(.c (.d (.int .i64 12)))),(4,1,(.t 14))]))
 (.one ⟨none,.st (.t 3) (.t 15) 6,none⟩
 .done))))
 (.alt (Qo 13 (.call 208 [(.t 10),(.t 12)]))
 (.one (Qo 9 (.Mt 44 6 1 [(.d (.int .i64 0)),(.d (.str [])),(.d (.int .i64 0)),.AW,.AW,.AW] [(0,6,(.t 8))]))
 (.one (Qo 14 (.app 44 6 104 (.t 9) (.t 13)))
 (.one (Qo 15 (.bld [(.d (.int .i64 0)),(.d (.str [])),(.d (.int .i64 0)),.AW,.AW,.AW] [(0,1,(.c (.d (.int .i64 12)))),(4,1,(.t 14))]))
 (.one ⟨none,.st (.t 3) (.t 15) 6,none⟩
 .done))))
 .done)))))) [0,2,3])))
def TC:C:=(.seq (.reg [Qo 2 (.al [(.d (.int .i64 0)),(.d (.str [])),(.d (.int .i64 0)),.AW,.AW,.AW] false)] [0,2])
 (.seq (.reg [Qm 4 0,
 Qo 5 (.call 207 [(.t 4)]),
 Qo 3 (.al [(.d (.int .i64 0)),(.d (.str [])),(.d (.int .i64 0)),.AW,.AW,.AW] false),
 ⟨none,.st (.t 3) (.t 5) 6,none⟩] [0,2,3])
 (.seq (.block 0 (.loop JM))
 (.seq (.reg [Qo 16 (.ldl (.t 3) (some 6)),
 ⟨none,.st (.t 2) (.t 16) 6,none⟩] [2])
 .ret))))
def T0:List (List Nat×PT):=[([0,2],.done),([0,2,3],.done),([0,2,3,7],.done),([0,2,3],(.one 0 (.one 2 (.one 3 (.one 4 (.alt 1 (.one 5 (.one 6 (.one 7 (.one 8 .done)))) (.alt 5 (.one 1 (.one 6 (.one 7 (.one 8 .done)))) .done))))))),([2],.done)]
noncomputable def D3:Cx:=⟨Tryz.prog,204,Tryz.f204,17,[9,300008,300016],[],[.c 2 (some 6)]⟩
theorem MP:Good D3:=⟨Tryz.func204,by kernel_rfl⟩
theorem S2:D3.rs=[.c 2 (some 6)]:=rfl
theorem TH (hl:args.length≤17) (h:Run D3 K [.code TC] (Ao args) E σ):AQ Tryz.prog 204 args σ K:=
 AU (cx:=D3) (code:=Tryz.f204.body.getD .skip) MP (by kernel_rfl) Tryz.ntmps204 hl (AY D3 _ T0 _ [] (by kernel_rfl)) h
def On:C:=(.seq (.seq (.reg [Qm 68 5,
 Qo 69 (.bin .leq (.t 68) (.c (.d (.int .i64 7))))] [0,2,5,69])
 (.cond (.t 69) .skip
 (.exit 1)))
 (.seq (.block 2 (.seq (.reg [Qm 73 5,
 Qo 74 (.call 147 [(.t 73)]),
 Qm 72 74,
 Qo 75 (.ext (.t 72) 0),
 Qo 76 (.ext (.t 72) 1),
 Qm 6 75,
 Qm 7 76] [0,2,5,6,7])
 (.seq (.reg [Qm 77 0,
 Qm 78 6,
 Qo 79 (.call 65 [(.t 77),(.t 78)])] [0,2,5,7,79])
 (.cond (.t 79) (.seq (.reg [Qm 80 5,
 Qm 81 0,
 Qm 82 7,
 Qo 83 (.call 213 [(.t 81),(.t 82)]),
 Qo 84 (.bld [(.d (.int .i64 0)),(.d (.str [])),(.d (.int .i64 0)),.AW,.AW,.AW] [(0,1,(.c (.d (.int .i64 14)))),(2,1,(.t 80)),(4,1,(.t 83))]),
 ⟨none,.st (.t 2) (.t 84) 6,none⟩] [2])
 .ret)
 .skip))))
 (.reg [Qm 70 5,
 Qo 71 (.bin .add (.t 70) (.c (.d (.int .i64 1)))),
 Qm 5 71] [0,2,5])))
def LF:C:=(.seq (.reg [Qo 2 (.al [(.d (.int .i64 0)),(.d (.str [])),(.d (.int .i64 0)),.AW,.AW,.AW] false)] [0,2])
 (.seq (.seq (.reg [Qm 8 0,
 Qo 9 (.call 64 [(.t 8)]),
 Qo 3 (.al [(.d (.int .i64 0)),(.d (.str [])),(.d (.int .i64 0))] false),
 ⟨none,.st (.t 3) (.t 9) 3,none⟩] [0,2,3])
 (.block 0 (.seq (.reg [Qo 11 (.fld (.t 3) 0),
 Qo 12 (.ldl (.t 11) none),
 Qo 13 (.bin .eql (.t 12) (.c (.d (.int .i64 3)))),
 Qm 10 13] [0,2,3,10])
 (.cond (.t 10) (.seq (.reg [Qm 14 0,
 Qo 15 (.call 209 [(.t 14)]),
 Qo 16 (.bld [(.d (.int .i64 0)),(.d (.str [])),(.d (.int .i64 0)),.AW,.AW,.AW] [(0,1,(.c (.d (.int .i64 3)))),(2,1,(.t 15))]),
 ⟨none,.st (.t 2) (.t 16) 6,none⟩] [2])
 .ret)
 (.seq (.reg [Qo 18 (.fld (.t 3) 0),
 Qo 19 (.ldl (.t 18) none),
 Qo 20 (.bin .eql (.t 19) (.c (.d (.int .i64 1)))),
 Qm 17 20] [0,2,3,17])
 (.cond (.t 17) (.seq (.reg [Qm 21 0,
 Qo 22 (.call 126 [(.t 21)]),
 Qo 23 (.bld [(.d (.int .i64 0)),(.d (.str [])),(.d (.int .i64 0)),.AW,.AW,.AW] [(0,1,(.c (.d (.int .i64 4)))),(1,1,(.t 22))]),
 ⟨none,.st (.t 2) (.t 23) 6,none⟩] [2])
 .ret)
 (.seq (.reg [Qo 25 (.fld (.t 3) 0),
 Qo 26 (.ldl (.t 25) none),
 Qo 27 (.bin .eql (.t 26) (.c (.d (.int .i64 2)))),
 Qm 24 27] [0,2,24])
 (.cond (.t 24) (.seq (.reg [Qm 28 0,
 Qo 29 (.call 124 [(.t 28),(.c (.d (.int .i64 2)))]),
 Qo 30 (.bld [(.d (.int .i64 0)),(.d (.str [])),(.d (.int .i64 0)),.AW,.AW,.AW] [(0,1,(.c (.d (.int .i64 6)))),(1,1,(.t 29))]),
 Qo 4 (.al [(.d (.int .i64 0)),(.d (.str [])),(.d (.int .i64 0)),.AW,.AW,.AW] false),
 ⟨none,.st (.t 4) (.t 30) 6,none⟩] [0,2,4])
 (.seq (.reg [Qm 31 0,
 Qm 32 0,
 Qo 33 (.mkf 131 [(.t 32)] []),
 Qo 34 (.call 210 [(.t 31),(.t 33)]),
 Qo 35 (.fld (.t 4) 4),
 ⟨none,.st (.t 35) (.t 34) 1,none⟩] [2,4])
 (.seq (.reg [Qo 36 (.ldl (.t 4) (some 6)),
 ⟨none,.st (.t 2) (.t 36) 6,none⟩] [2])
 .ret)))
 (.seq (.reg [Qm 38 0,
 Qo 39 (.call 65 [(.t 38),(.c (.d (.str [45])))]),
 Qm 37 39] [0,2,37])
 (.cond (.t 37) (.seq (.reg [Qm 40 0,
 Qo 41 (.call 209 [(.t 40)]),
 Qo 42 (.un .neg (.t 41)),
 Qo 43 (.bld [(.d (.int .i64 0)),(.d (.str [])),(.d (.int .i64 0)),.AW,.AW,.AW] [(0,1,(.c (.d (.int .i64 3)))),(2,1,(.t 42))]),
 ⟨none,.st (.t 2) (.t 43) 6,none⟩] [2])
 .ret)
 (.seq (.reg [Qm 45 0,
 Qo 46 (.call 65 [(.t 45),(.c (.d (.str [116,114,117,101])))]),
 Qm 44 46] [0,2,44])
 (.cond (.t 44) (.seq (.reg [Qo 47 (.bld [(.d (.int .i64 0)),(.d (.str [])),(.d (.int .i64 0)),.AW,.AW,.AW] [(0,1,(.c (.d (.int .i64 2)))),(2,1,(.c (.d (.int .i64 1))))]),
 ⟨none,.st (.t 2) (.t 47) 6,none⟩] [2])
 .ret)
 (.seq (.reg [Qm 49 0,
 Qo 50 (.call 65 [(.t 49),(.c (.d (.str [102,97,108,115,101])))]),
 Qm 48 50] [0,2,48])
 (.cond (.t 48) (.seq (.reg [Qo 51 (.bld [(.d (.int .i64 0)),(.d (.str [])),(.d (.int .i64 0)),.AW,.AW,.AW] [(0,1,(.c (.d (.int .i64 2))))]),
 ⟨none,.st (.t 2) (.t 51) 6,none⟩] [2])
 .ret)
 (.seq (.reg [Qm 53 0,
 Qo 54 (.call 65 [(.t 53),(.c (.d (.str [40])))]),
 Qm 52 54] [0,2,52])
 (.cond (.t 52) (.seq (.reg [Qm 55 0,
 Qo 56 (.call 211 [(.t 55)]),
 ⟨none,.st (.t 2) (.t 56) 6,none⟩] [2])
 .ret)
 (.seq (.reg [Qm 58 0,
 Qo 59 (.call 65 [(.t 58),(.c (.d (.str [116,105,99,107])))]),
 Qm 57 59] [0,2,57])
 (.cond (.t 57) (.seq (.reg [Qm 60 0,
 Qo 61 (.call 212 [(.t 60)]),
 ⟨none,.st (.t 2) (.t 61) 6,none⟩] [2])
 .ret)
 (.seq (.reg [Qm 63 0,
 Qo 64 (.call 65 [(.t 63),(.c (.d (.str [114,97,105,115,101])))]),
 Qm 62 64] [0,2,62])
 (.cond (.t 62) (.seq (.reg [Qm 65 0,
 Qo 66 (.call 213 [(.t 65),(.c (.d (.int .i64 1)))]),
 Qo 67 (.bld [(.d (.int .i64 0)),(.d (.str [])),(.d (.int .i64 0)),.AW,.AW,.AW] [(0,1,(.c (.d (.int .i64 16)))),(4,1,(.t 66))]),
 ⟨none,.st (.t 2) (.t 67) 6,none⟩] [2])
 .ret)
 .skip))))))))))))))))))))
 (.seq (.seq (.reg [Qo 5 (.mv (.c (.d (.int .i64 1))))] [0,2,5])
 (.block 1 (.loop On)))
 (.seq (.reg [Qm 85 0,
 Qo 86 (.call 68 [(.t 85)])] [2])
 (.seq (.reg [Qo 87 (.bld [(.d (.int .i64 0)),(.d (.str [])),(.d (.int .i64 0)),.AW,.AW,.AW] []),
 ⟨none,.st (.t 2) (.t 87) 6,none⟩] [2])
 .ret)))))
noncomputable def EN:Cx:=⟨Tryz.prog,207,Tryz.f207,88,[300012,300019,300026,300036],[],[.c 2 (some 6)]⟩
theorem BG:Good EN:=⟨Tryz.func207,by kernel_rfl⟩
theorem R1:EN.rs=[.c 2 (some 6)]:=rfl
theorem SG (hl:args.length≤88) (h:Run EN K [.code LF] (Ao args) E σ):AQ Tryz.prog 207 args σ K:=
 AU (cx:=EN) (code:=Tryz.f207.body.getD .skip) BG (by kernel_rfl) Tryz.ntmps207 hl (AY EN _ (As LF) _ [] (by kernel_rfl)) h
def Hr:C:=(.seq (.reg [Qo 4 (.mv (.c .AW))] [0,1])
 (.seq (.seq (.reg [Qm 5 0,
 Qo 6 (.call 65 [(.t 5),(.c (.d (.str [41])))])] [0,1,6])
 (.cond (.t 6) (.seq (.reg [Qo 4 (.mv (.c .AW))] [4])
 .ret)
 .skip))
 (.seq (.reg [Qm 7 0,
 Qm 8 1,
 Qo 9 (.call 214 [(.t 7),(.t 8)]),
 Qm 4 9] [4])
 .ret)))
noncomputable def Cm:Cx:=⟨Tryz.prog,208,Tryz.f208,10,[],[],[.t 4]⟩
theorem FX:Good Cm:=⟨Tryz.func208,by kernel_rfl⟩
theorem Nq:Cm.rs=[.t 4]:=rfl
theorem OX (hl:args.length≤10) (h:Run Cm K [.code Hr] (Ao args) E σ):AQ Tryz.prog 208 args σ K:=
 AU (cx:=Cm) (code:=Tryz.f208.body.getD .skip) FX (by kernel_rfl) Tryz.ntmps208 hl (AY Cm _ (As Hr) _ [] (by kernel_rfl)) h
def JO:C:=(.seq (.reg [Qo 2 (.mv (.c (.d (.int .i64 0))))] [0])
 (.seq (.reg [Qm 6 0,
 Qo 7 (.call 124 [(.t 6),(.c (.d (.int .i64 3)))]),
 Qo 8 (.call 215 [(.t 7),(.c (.d (.int .i64 10))),(.c (.d (.int .i64 64)))]),
 Qm 5 8,
 Qo 9 (.ext (.t 5) 0),
 Qo 10 (.ext (.t 5) 1),
 Qm 3 9,
 Qm 4 10] [3])
 (.seq (.reg [Qm 11 3,
 Qm 2 11] [2])
 .ret)))
noncomputable def D0:Cx:=⟨Tryz.prog,209,Tryz.f209,12,[],[],[.t 2]⟩
theorem JZ:Good D0:=⟨Tryz.func209,by kernel_rfl⟩
theorem P1:D0.rs=[.t 2]:=rfl
theorem QK (hl:args.length≤12) (h:Run D0 K [.code JO] (Ao args) E σ):AQ Tryz.prog 209 args σ K:=
 AU (cx:=D0) (code:=Tryz.f209.body.getD .skip) JZ (by kernel_rfl) Tryz.ntmps209 hl (AY D0 _ (As JO) _ [] (by kernel_rfl)) h
def Ht:C:=(.seq (.reg [Qo 4 (.mv (.c .AW))] [0,1])
 (.seq (.seq (.reg [Qm 5 0,
 Qo 6 (.call 65 [(.t 5),(.c (.d (.str [40])))]),
 Qo 7 (.un .not (.t 6))] [0,1,7])
 (.cond (.t 7) (.seq (.reg [Qo 4 (.mv (.c .AW))] [4])
 .ret)
 .skip))
 (.seq (.reg [Qm 8 0,
 Qm 9 1,
 Qo 10 (.call 214 [(.t 8),(.t 9)]),
 Qm 4 10] [4])
 .ret)))
noncomputable def Co:Cx:=⟨Tryz.prog,210,Tryz.f210,11,[],[],[.t 4]⟩
theorem FY:Good Co:=⟨Tryz.func210,by kernel_rfl⟩
theorem Ns:Co.rs=[.t 4]:=rfl
theorem OZ (hl:args.length≤11) (h:Run Co K [.code Ht] (Ao args) E σ):AQ Tryz.prog 210 args σ K:=
 AU (cx:=Co) (code:=Tryz.f210.body.getD .skip) FY (by kernel_rfl) Tryz.ntmps210 hl (AY Co _ (As Ht) _ [] (by kernel_rfl)) h
def M1:C:=(.seq (.reg [Qo 2 (.al [(.d (.int .i64 0)),(.d (.str [])),(.d (.int .i64 0)),.AW,.AW,.AW] false)] [0,2])
 (.seq (.seq (.reg [Qm 4 0,
 Qo 5 (.call 65 [(.t 4),(.c (.d (.str [41])))])] [0,2,5])
 (.cond (.t 5) (.seq (.reg [Qo 6 (.bld [(.d (.int .i64 0)),(.d (.str [])),(.d (.int .i64 0)),.AW,.AW,.AW] [(0,1,(.c (.d (.int .i64 1))))]),
 ⟨none,.st (.t 2) (.t 6) 6,none⟩] [2])
 .ret)
 .skip))
 (.seq (.reg [Qm 7 0,
 Qo 8 (.call 131 [(.t 7)]),
 Qo 3 (.al [(.d (.int .i64 0)),(.d (.str [])),(.d (.int .i64 0)),.AW,.AW,.AW] false),
 ⟨none,.st (.t 3) (.t 8) 6,none⟩] [0,2,3])
 (.seq (.seq (.reg [Qm 9 0,
 Qo 10 (.call 65 [(.t 9),(.c (.d (.str [41])))])] [0,2,3,10])
 (.cond (.t 10) (.seq (.reg [Qo 11 (.ldl (.t 3) (some 6)),
 ⟨none,.st (.t 2) (.t 11) 6,none⟩] [2])
 .ret)
 .skip))
 (.seq (.reg [Qm 12 0,
 Qo 13 (.call 127 [(.t 12),(.c (.d (.str [44])))])] [0,2,3])
 (.seq (.SZ (.one (Qo 14 (.ldl (.t 3) (some 6)))
 (.one (Qm 16 0)
 (.one (Qm 17 0)
 (.one (Qo 18 (.mkf 131 [(.t 17)] []))
 (.alt (Qo 15 (.Mt 44 6 1 [(.d (.int .i64 0)),(.d (.str [])),(.d (.int .i64 0)),.AW,.AW,.AW] [(0,6,(.t 14))]))
 (.one (Qo 19 (.call 214 [(.t 16),(.t 18)]))
 (.one (Qo 20 (.app 44 6 104 (.t 15) (.t 19)))
 (.one (Qo 21 (.bld [(.d (.int .i64 0)),(.d (.str [])),(.d (.int .i64 0)),.AW,.AW,.AW] [(0,1,(.c (.d (.int .i64 5)))),(4,1,(.t 20))]))
 (.one ⟨none,.st (.t 2) (.t 21) 6,none⟩
 .done))))
 (.alt (Qo 19 (.call 214 [(.t 16),(.t 18)]))
 (.one (Qo 15 (.Mt 44 6 1 [(.d (.int .i64 0)),(.d (.str [])),(.d (.int .i64 0)),.AW,.AW,.AW] [(0,6,(.t 14))]))
 (.one (Qo 20 (.app 44 6 104 (.t 15) (.t 19)))
 (.one (Qo 21 (.bld [(.d (.int .i64 0)),(.d (.str [])),(.d (.int .i64 0)),.AW,.AW,.AW] [(0,1,(.c (.d (.int .i64 5)))),(4,1,(.t 20))]))
 (.one ⟨none,.st (.t 2) (.t 21) 6,none⟩
 .done))))
 .done)))))) [2])
 .ret))))))
def Mn:List (List Nat×PT):=[([0,2],.done),([0,2,5],.done),([2],.done),([0,2,3],.done),([0,2,3,10],.done),([2],.done),([0,2,3],.done),([2],(.one 0 (.one 2 (.one 3 (.one 4 (.alt 1 (.one 5 (.one 6 (.one 7 (.one 8 .done)))) (.alt 5 (.one 1 (.one 6 (.one 7 (.one 8 .done)))) .done)))))))]
noncomputable def CL:Cx:=⟨Tryz.prog,211,Tryz.f211,22,[15,300011,300014],[],[.c 2 (some 6)]⟩
theorem CG:Good CL:=⟨Tryz.func211,by kernel_rfl⟩
theorem MA:CL.rs=[.c 2 (some 6)]:=rfl
theorem M9 (hl:args.length≤22) (h:Run CL K [.code M1] (Ao args) E σ):AQ Tryz.prog 211 args σ K:=
 AU (cx:=CL) (code:=Tryz.f211.body.getD .skip) CG (by kernel_rfl) Tryz.ntmps211 hl (AY CL _ Mn _ [] (by kernel_rfl)) h
def LI:C:=(.seq (.reg [Qo 2 (.al [(.d (.int .i64 0)),(.d (.str [])),(.d (.int .i64 0)),.AW,.AW,.AW] false)] [0,2])
 (.seq (.reg [Qm 4 0,
 Qo 5 (.call 127 [(.t 4),(.c (.d (.str [40])))])] [0,2])
 (.seq (.reg [Qo 6 (.bld [(.d (.int .i64 0)),(.d (.str [])),(.d (.int .i64 0)),.AW,.AW,.AW] [(0,1,(.c (.d (.int .i64 15))))]),
 Qo 3 (.al [(.d (.int .i64 0)),(.d (.str [])),(.d (.int .i64 0)),.AW,.AW,.AW] false),
 ⟨none,.st (.t 3) (.t 6) 6,none⟩] [0,2,3])
 (.seq (.seq (.reg [Qm 7 0,
 Qo 8 (.call 65 [(.t 7),(.c (.d (.str [45])))])] [0,2,3,8])
 (.cond (.t 8) (.reg [Qm 9 0,
 Qo 10 (.call 209 [(.t 9)]),
 Qo 11 (.un .neg (.t 10)),
 Qo 12 (.fld (.t 3) 2),
 ⟨none,.st (.t 12) (.t 11) 1,none⟩] [0,2,3])
 (.reg [Qm 13 0,
 Qo 14 (.call 209 [(.t 13)]),
 Qo 15 (.fld (.t 3) 2),
 ⟨none,.st (.t 15) (.t 14) 1,none⟩] [0,2,3])))
 (.seq (.reg [Qm 16 0,
 Qo 17 (.call 127 [(.t 16),(.c (.d (.str [41])))])] [2,3])
 (.seq (.reg [Qo 18 (.ldl (.t 3) (some 6)),
 ⟨none,.st (.t 2) (.t 18) 6,none⟩] [2])
 .ret))))))
noncomputable def ER:Cx:=⟨Tryz.prog,212,Tryz.f212,19,[300018],[],[.c 2 (some 6)]⟩
theorem HO:Good ER:=⟨Tryz.func212,by kernel_rfl⟩
theorem R4:ER.rs=[.c 2 (some 6)]:=rfl
theorem SJ (hl:args.length≤19) (h:Run ER K [.code LI] (Ao args) E σ):AQ Tryz.prog 212 args σ K:=
 AU (cx:=ER) (code:=Tryz.f212.body.getD .skip) HO (by kernel_rfl) Tryz.ntmps212 hl (AY ER _ (As LI) _ [] (by kernel_rfl)) h
def Ll:C:=(.seq (.reg [Qo 14 (.bin .lss (.t 13) (.t 12))] [0,5,12,13,14])
 (.seq (.cond (.t 14) .skip
 (.exit 0))
 (.seq (.block 1 (.seq (.reg [Qm 15 0,
 Qo 16 (.call 127 [(.t 15),(.c (.d (.str [44])))])] [0,5,12,13])
 (.reg [Qm 17 5,
 Qm 18 0,
 Qo 19 (.call 131 [(.t 18)]),
 Qo 20 (.bsl 6 1 [(.d (.int .i64 0)),(.d (.str [])),(.d (.int .i64 0)),.AW,.AW,.AW] [(0,6,(.t 19))]),
 Qo 21 (.app 44 6 104 (.t 17) (.t 20)),
 Qm 5 21] [0,5,12,13])))
 (.reg [Qo 22 (.bin .add (.t 13) (.c (.d (.int .i64 1)))),
 Qm 13 22] [0,5,12,13]))))
def Hd:C:=(.seq (.reg [Qo 4 (.mv (.c .AW))] [0,1])
 (.seq (.reg [Qm 6 0,
 Qo 7 (.call 127 [(.t 6),(.c (.d (.str [40])))])] [0,1])
 (.seq (.reg [Qm 8 0,
 Qo 9 (.call 131 [(.t 8)]),
 Qo 10 (.Mt 44 6 1 [(.d (.int .i64 0)),(.d (.str [])),(.d (.int .i64 0)),.AW,.AW,.AW] [(0,6,(.t 9))]),
 Qm 5 10] [0,1,5])
 (.seq (.seq (.reg [Qm 11 1,
 Qo 12 (.bin .sub (.t 11) (.c (.d (.int .i64 1)))),
 Qo 13 (.mv (.c (.d (.int .i64 0))))] [0,5,12,13])
 (.block 0 (.loop Ll)))
 (.seq (.reg [Qm 23 0,
 Qo 24 (.call 127 [(.t 23),(.c (.d (.str [41])))])] [5])
 (.seq (.reg [Qm 25 5,
 Qm 4 25] [4])
 .ret))))))
noncomputable def Cc:Cx:=⟨Tryz.prog,213,Tryz.f213,26,[10],[],[.t 4]⟩
theorem Hg:Good Cc:=⟨Tryz.func213,by kernel_rfl⟩
theorem N4:Cc.rs=[.t 4]:=rfl
theorem Nl (hl:args.length≤26) (h:Run Cc K [.code Hd] (Ao args) E σ):AQ Tryz.prog 213 args σ K:=
 AU (cx:=Cc) (code:=Tryz.f213.body.getD .skip) Hg (by kernel_rfl) Tryz.ntmps213 hl (AY Cc _ (As Hd) _ [] (by kernel_rfl)) h
def Hs:C:=(.seq (.reg [Qo 4 (.mv (.c .AW))] [0,1])
 (.seq (.reg [Qm 6 0,
 Qm 7 1,
 Qo 8 (.call 216 [(.t 6),(.c (.d (.str [44]))),(.t 7)]),
 Qm 5 8] [0,5])
 (.seq (.reg [Qm 9 0,
 Qo 10 (.call 127 [(.t 9),(.c (.d (.str [41])))])] [5])
 (.seq (.reg [Qm 11 5,
 Qm 4 11] [4])
 .ret))))
noncomputable def Cn:Cx:=⟨Tryz.prog,214,Tryz.f214,12,[],[],[.t 4]⟩
theorem IA:Good Cn:=⟨Tryz.func214,by kernel_rfl⟩
theorem Nr:Cn.rs=[.t 4]:=rfl
theorem OY (hl:args.length≤12) (h:Run Cn K [.code Hs] (Ao args) E σ):AQ Tryz.prog 214 args σ K:=
 AU (cx:=Cn) (code:=Tryz.f214.body.getD .skip) IA (by kernel_rfl) Tryz.ntmps214 hl (AY Cn _ (As Hs) _ [] (by kernel_rfl)) h
def Mx:C:=(.seq (.seq (.reg [Qm 11 0,
 Qm 12 1,
 Qo 13 (.call 65 [(.t 11),(.t 12)])] [0,1,2,7,13])
 (.cond (.t 13) .skip
 (.exit 0)))
 (.block 1 (.reg [Qm 14 7,
 Qm 15 2,
 Qo 16 (.DI (.t 15) []),
 Qo 17 (.bsl 6 1 [(.d (.int .i64 0)),(.d (.str [])),(.d (.int .i64 0)),.AW,.AW,.AW] [(0,6,(.t 16))]),
 Qo 18 (.app 44 6 104 (.t 14) (.t 17)),
 Qm 7 18] [0,1,2,7])))
def Ib:C:=(.seq (.reg [Qo 6 (.mv (.c .AW))] [0,1,2])
 (.seq (.reg [Qm 8 2,
 Qo 9 (.DI (.t 8) []),
 Qo 10 (.Mt 44 6 1 [(.d (.int .i64 0)),(.d (.str [])),(.d (.int .i64 0)),.AW,.AW,.AW] [(0,6,(.t 9))]),
 Qm 7 10] [0,1,2,7])
 (.seq (.block 0 (.loop Mx))
 (.seq (.reg [Qm 19 7,
 Qm 6 19] [6])
 .ret))))
noncomputable def Cz:Cx:=⟨Tryz.prog,216,Tryz.f216,20,[10],[],[.t 6]⟩
theorem Ij:Good Cz:=⟨Tryz.func216,by kernel_rfl⟩
theorem O7:Cz.rs=[.t 6]:=rfl
theorem Oy (hl:args.length≤20) (h:Run Cz K [.code Ib] (Ao args) E σ):AQ Tryz.prog 216 args σ K:=
 AU (cx:=Cz) (code:=Tryz.f216.body.getD .skip) Ij (by kernel_rfl) Tryz.ntmps216 hl (AY Cz _ (As Ib) _ [] (by kernel_rfl)) h
attribute [go_sem] XB O9 R0 PZ RW S4 RY Q1 R3 PY RZ P0 Mh S3 PS RX PX PV L9 S7 S5 PU S1 RT RU Q0 L8 O8 L7 S6 Nu WN Ly R2 S2 R1 Nq P1 Ns MA R4 N4 Nr O7
end Go.Ab
