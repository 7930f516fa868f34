/- The compact codes of the functions of this seat, computed out of the translation. Conditions: none. -/
import Derived.Test.YtifplkldbbcldaaGreatDoorProg
import Derived.KernelRfl
import Derived.Test.YtifplkldbbcldaaGreatDoorXQm
set_option linter.unusedSimpArgs false
set_option linter.unusedVariables false
set_option maxRecDepth 4000
set_option maxHeartbeats 8000000
namespace Go.Ab
open Go.Proofs
variable {args:List AV} {σ:AM} {K:AV→AM→Prop}
def YT:C:=(.seq (.reg [Qo 2 (.al [.AY,.AY] false),
 Qo 3 (.mv (.c (.d (.int .i64 0)))),
 Qo 4 (.mv (.c (.d (.int .i64 0))))] [0,2])
 (.seq (.reg [Qm 11 0,
 Qo 12 (.call 21 [(.t 11)]),
 Qm 10 12,
 Qo 13 (.ext (.t 10) 0),
 Qo 14 (.ext (.t 10) 1),
 Qo 15 (.ext (.t 10) 2),
 Qm 5 13,
 Qm 6 14,
 Qm 7 15] [2,5,6,7])
 (.seq (.seq (.reg [Qm 16 7,
 Qo 17 (.bin .neq (.t 16) (.c (.d (.int .i64 0))))] [2,5,6,7,17])
 (.cond (.t 17) (.seq (.reg [Qo 18 (.bld [.AY,.AY] []),
 Qm 19 6,
 Qm 20 7,
 ⟨none,.st (.t 2) (.t 18) 2,none⟩,
 Qm 3 19,
 Qm 4 20] [2,3,4])
 .ret)
 .skip))
 (.seq (.reg [Qm 21 5,
 Qo 22 (.bld [.AY,(.d (.int .i64 0)),(.d (.bool false)),(.d (.int .i64 0))] [(0,1,(.t 21))]),
 Qo 23 (.box (.t 22) true),
 Qm 8 23] [2,8])
 (.seq (.reg [Qm 24 8,
 Qo 25 (.call 28 [(.t 24)]),
 Qo 9 (.al [.AY,.AY] false),
 ⟨none,.st (.t 9) (.t 25) 2,none⟩] [2,8,9])
 (.seq (.seq (.reg [Qm 26 8,
 Qo 27 (.nck (.t 26)),
 Qo 28 (.fld (.t 27) 2),
 Qo 29 (.ld (.t 28) none)] [2,8,9,29])
 (.cond (.t 29) (.seq (.FZ (.one (Qo 30 (.bld [.AY,.AY] []))
 (.one (Qm 31 8)
 (.one (Qo 32 (.nck (.t 31)))
 (.one (Qo 33 (.fld (.t 32) 3))
 (.alt (Qo 34 (.ld (.t 33) none))
 (.one ⟨none,.st (.t 2) (.t 30) 2,none⟩
 (.one (Qm 3 34)
 (.one (Qo 4 (.mv (.c (.d (.int .i64 2)))))
 .done)))
 (.alt ⟨none,.st (.t 2) (.t 30) 2,none⟩
 (.one (Qo 34 (.ld (.t 33) none))
 (.one (Qm 3 34)
 (.one (Qo 4 (.mv (.c (.d (.int .i64 2)))))
 .done)))
 .done)))))) [2,3,4])
 .ret)
 .skip))
 (.seq (.seq (.reg [Qo 35 (.ldl (.t 9) (some 2)),
 Qo 36 (.call 19 [(.t 35)]),
 Qo 37 (.un .not (.t 36))] [2,9,37])
 (.cond (.t 37) (.seq (.reg [Qo 38 (.bld [.AY,.AY] []),
 ⟨none,.st (.t 2) (.t 38) 2,none⟩,
 Qo 3 (.mv (.c (.d (.int .i64 0)))),
 Qo 4 (.mv (.c (.d (.int .i64 9))))] [2,3,4])
 .ret)
 .skip))
 (.seq (.reg [Qo 39 (.ldl (.t 9) (some 2)),
 ⟨none,.st (.t 2) (.t 39) 2,none⟩,
 Qo 3 (.mv (.c (.d (.int .i64 0)))),
 Qo 4 (.mv (.c (.d (.int .i64 0))))] [2,3,4])
 .ret))))))))
def Ze:List (List Nat×PT):=[([0,2],.done),([2,5,6,7],.done),([2,5,6,7,17],.done),([2,3,4],.done),([2,8],.done),([2,8,9],.done),([2,8,9,29],.done),([2,3,4],(.one 0 (.one 1 (.one 2 (.one 3 (.alt 4 (.one 5 (.one 6 (.one 7 .done))) (.alt 5 (.one 4 (.one 6 (.one 7 .done))) .done))))))),([2,9,37],.done),([2,3,4],.done),([2,3,4],.done)]
noncomputable def HW:Cx:=⟨Tryz.prog,12,Tryz.f12,40,[23,300035,300039],[],[.c 2 (some 2),.t 3,.t 4]⟩
theorem HH:Good HW:=⟨Tryz.func12,by kernel_rfl⟩
theorem XX:HW.rs=[.c 2 (some 2),.t 3,.t 4]:=rfl
theorem Ya (hl:args.length≤40) (h:Run HW K [.code YT] (At args) E σ):AP Tryz.prog 12 args σ K:=
 AX (cx:=HW) (code:=Tryz.f12.body.getD .skip) HH (by kernel_rfl) Tryz.ntmps12 hl (AZ HW _ Ze _ [] (by kernel_rfl)) h
def Mr:C:=(.seq (.seq (.reg [Qm 4 0,
 Qo 5 (.call 64 [(.t 4)]),
 Qo 6 (.fd (.t 5) 0 none),
 Qo 7 (.bin .neq (.t 6) (.c (.d (.int .i64 6))))] [0,2,3,7])
 (.cond (.t 7) .skip
 (.exit 0)))
 (.block 1 (.block 2 (.seq (.reg [Qm 11 0,
 Qo 12 (.call 65 [(.t 11),(.c (.d (.str [100,97,116,97])))]),
 Qm 10 12] [0,2,3,10])
 (.cond (.t 10) (.reg [Qo 13 (.fld (.t 3) 0),
 Qo 14 (.ldl (.t 13) none),
 Qm 15 0,
 Qo 16 (.call 66 [(.t 15)]),
 Qo 17 (.bsl 3 1 [(.d (.str [])),.AY,.AY] [(0,3,(.t 16))]),
 Qo 18 (.app 61 3 64 (.t 14) (.t 17)),
 Qo 19 (.fld (.t 3) 0),
 ⟨none,.st (.t 19) (.t 18) 1,none⟩] [0,2,3])
 (.seq (.reg [Qm 21 0,
 Qo 22 (.call 65 [(.t 21),(.c (.d (.str [102,117,110])))]),
 Qm 20 22] [0,2,3,20])
 (.cond (.t 20) (.reg [Qo 23 (.fld (.t 3) 1),
 Qo 24 (.ldl (.t 23) none),
 Qm 25 0,
 Qo 26 (.call 67 [(.t 25)]),
 Qo 27 (.bsl 8 1 [(.d (.str [])),.AY,(.d (.int .i64 0)),(.d (.str [])),(.d (.int .i64 0)),.AY,.AY,.AY] [(0,8,(.t 26))]),
 Qo 28 (.app 66 8 144 (.t 24) (.t 27)),
 Qo 29 (.fld (.t 3) 1),
 ⟨none,.st (.t 29) (.t 28) 1,none⟩] [0,2,3])
 (.reg [Qm 8 0,
 Qo 9 (.call 68 [(.t 8)])] [0,2,3]))))))))
def I6:C:=(.seq (.reg [Qo 2 (.al [.AY,.AY] false)] [0,2])
 (.seq (.reg [Qo 3 (.al [.AY,.AY] false)] [0,2,3])
 (.seq (.block 0 (.loop Mr))
 (.seq (.reg [Qo 30 (.ldl (.t 3) (some 2)),
 ⟨none,.st (.t 2) (.t 30) 2,none⟩] [2])
 .ret))))
noncomputable def Bl:Cx:=⟨Tryz.prog,28,Tryz.f28,31,[300014,300024,300030],[],[.c 2 (some 2)]⟩
theorem Ie:Good Bl:=⟨Tryz.func28,by kernel_rfl⟩
theorem O7:Bl.rs=[.c 2 (some 2)]:=rfl
theorem PA (hl:args.length≤31) (h:Run Bl K [.code I6] (At args) E σ):AP Tryz.prog 28 args σ K:=
 AX (cx:=Bl) (code:=Tryz.f28.body.getD .skip) Ie (by kernel_rfl) Tryz.ntmps28 hl (AZ Bl _ (Ax I6) _ [] (by kernel_rfl)) h
def Ks:C:=(.seq (.reg [Qo 2 (.al [(.d (.int .i64 0)),(.d (.str [])),(.d (.int .i64 0))] false)] [0,2])
 (.seq (.reg [Qm 3 0,
 Qo 4 (.nck (.t 3)),
 Qo 5 (.fld (.t 4) 0),
 Qo 6 (.ld (.t 5) none),
 Qm 7 0,
 Qo 8 (.nck (.t 7)),
 Qo 9 (.fld (.t 8) 1),
 Qo 10 (.ld (.t 9) none),
 Qo 11 (.ix (.t 6) (.t 10) 3),
 Qo 12 (.ld (.t 11) (some 3)),
 ⟨none,.st (.t 2) (.t 12) 3,none⟩] [2])
 .ret))
noncomputable def EN:Cx:=⟨Tryz.prog,64,Tryz.f64,13,[],[],[.c 2 (some 3)]⟩
theorem LJ:Good EN:=⟨Tryz.func64,by kernel_rfl⟩
theorem R3:EN.rs=[.c 2 (some 3)]:=rfl
theorem SM (hl:args.length≤13) (h:Run EN K [.code Ks] (At args) E σ):AP Tryz.prog 64 args σ K:=
 AX (cx:=EN) (code:=Tryz.f64.body.getD .skip) LJ (by kernel_rfl) Tryz.ntmps64 hl (AZ EN _ (Ax Ks) _ [] (by kernel_rfl)) h
def JF:C:=(.seq (.reg [Qo 4 (.mv (.c (.d (.bool false))))] [0,1])
 (.seq (.seq (.reg [Qm 5 0,
 Qo 6 (.call 64 [(.t 5)]),
 Qo 7 (.fd (.t 6) 1 none),
 Qm 8 1,
 Qo 9 (.bin .neq (.t 7) (.t 8))] [0,9])
 (.cond (.t 9) (.seq (.reg [Qo 4 (.mv (.c (.d (.bool false))))] [4])
 .ret)
 .skip))
 (.seq (.reg [Qm 10 0,
 Qo 11 (.nck (.t 10)),
 Qo 12 (.fld (.t 11) 1),
 Qo 13 (.ld (.t 12) none),
 Qo 14 (.bin .add (.t 13) (.c (.d (.int .i64 1)))),
 Qo 15 (.nck (.t 10)),
 Qo 16 (.fld (.t 15) 1),
 ⟨none,.st (.t 16) (.t 14) 1,none⟩] [])
 (.seq (.reg [Qo 4 (.mv (.c (.d (.bool true))))] [4])
 .ret))))
noncomputable def DZ:Cx:=⟨Tryz.prog,65,Tryz.f65,17,[],[],[.t 4]⟩
theorem GO:Good DZ:=⟨Tryz.func65,by kernel_rfl⟩
theorem PY:DZ.rs=[.t 4]:=rfl
theorem JV (hl:args.length≤17) (h:Run DZ K [.code JF] (At args) E σ):AP Tryz.prog 65 args σ K:=
 AX (cx:=DZ) (code:=Tryz.f65.body.getD .skip) GO (by kernel_rfl) Tryz.ntmps65 hl (AZ DZ _ (Ax JF) _ [] (by kernel_rfl)) h
def Kn:C:=(.seq (.reg [Qo 2 (.al [(.d (.str [])),.AY,.AY] false)] [0,2])
 (.seq (.reg [Qm 4 0,
 Qo 5 (.call 124 [(.t 4),(.c (.d (.int .i64 2)))]),
 Qo 6 (.bld [(.d (.str [])),.AY,.AY] [(0,1,(.t 5))]),
 Qo 3 (.al [(.d (.str [])),.AY,.AY] false),
 ⟨none,.st (.t 3) (.t 6) 3,none⟩] [0,2,3])
 (.seq (.reg [Qm 7 0,
 Qm 8 0,
 Qo 9 (.mkf 126 [(.t 8)] []),
 Qo 10 (.call 125 [(.t 7),(.t 9)]),
 Qo 11 (.fld (.t 3) 1),
 ⟨none,.st (.t 11) (.t 10) 1,none⟩] [0,2,3])
 (.seq (.reg [Qm 12 0,
 Qo 13 (.call 127 [(.t 12),(.c (.d (.str [61])))])] [0,2,3])
 (.seq (.reg [Qm 14 0,
 Qm 15 0,
 Qo 16 (.mkf 129 [(.t 15)] []),
 Qo 17 (.call 128 [(.t 14),(.c (.d (.str [124]))),(.t 16)]),
 Qo 18 (.fld (.t 3) 2),
 ⟨none,.st (.t 18) (.t 17) 1,none⟩] [0,2,3])
 (.seq (.reg [Qm 19 0,
 Qo 20 (.call 127 [(.t 19),(.c (.d (.str [59])))])] [2,3])
 (.seq (.reg [Qo 21 (.ldl (.t 3) (some 3)),
 ⟨none,.st (.t 2) (.t 21) 3,none⟩] [2])
 .ret)))))))
noncomputable def EI:Cx:=⟨Tryz.prog,66,Tryz.f66,22,[300021],[],[.c 2 (some 3)]⟩
theorem LH:Good EI:=⟨Tryz.func66,by kernel_rfl⟩
theorem RZ:EI.rs=[.c 2 (some 3)]:=rfl
theorem SI (hl:args.length≤22) (h:Run EI K [.code Kn] (At args) E σ):AP Tryz.prog 66 args σ K:=
 AX (cx:=EI) (code:=Tryz.f66.body.getD .skip) LH (by kernel_rfl) Tryz.ntmps66 hl (AZ EI _ (Ax Kn) _ [] (by kernel_rfl)) h
def MI:C:=(.seq (.reg [Qo 2 (.al [(.d (.str [])),.AY,(.d (.int .i64 0)),(.d (.str [])),(.d (.int .i64 0)),.AY,.AY,.AY] false)] [0,2])
 (.seq (.reg [Qm 4 0,
 Qo 5 (.call 126 [(.t 4)]),
 Qo 6 (.bld [(.d (.str [])),.AY,(.d (.int .i64 0)),(.d (.str [])),(.d (.int .i64 0)),.AY,.AY,.AY] [(0,1,(.t 5))]),
 Qo 3 (.al [(.d (.str [])),.AY,(.d (.int .i64 0)),(.d (.str [])),(.d (.int .i64 0)),.AY,.AY,.AY] false),
 ⟨none,.st (.t 3) (.t 6) 8,none⟩] [0,2,3])
 (.seq (.reg [Qm 7 0,
 Qo 8 (.call 127 [(.t 7),(.c (.d (.str [40])))])] [0,2,3])
 (.seq (.reg [Qm 9 0,
 Qm 10 0,
 Qo 11 (.mkf 126 [(.t 10)] []),
 Qo 12 (.call 130 [(.t 9),(.t 11)]),
 Qo 13 (.fld (.t 3) 1),
 ⟨none,.st (.t 13) (.t 12) 1,none⟩] [0,2,3])
 (.seq (.reg [Qm 14 0,
 Qo 15 (.call 127 [(.t 14),(.c (.d (.str [61])))])] [0,2,3])
 (.seq (.reg [Qm 16 0,
 Qo 17 (.call 131 [(.t 16)]),
 Qo 18 (.fld (.t 3) 2),
 ⟨none,.st (.t 18) (.t 17) 6,none⟩] [0,2,3])
 (.seq (.reg [Qm 19 0,
 Qo 20 (.call 127 [(.t 19),(.c (.d (.str [59])))])] [2,3])
 (.seq (.reg [Qo 21 (.ldl (.t 3) (some 8)),
 ⟨none,.st (.t 2) (.t 21) 8,none⟩] [2])
 .ret))))))))
noncomputable def Ed:Cx:=⟨Tryz.prog,67,Tryz.f67,22,[300021],[],[.c 2 (some 8)]⟩
theorem MP:Good Ed:=⟨Tryz.func67,by kernel_rfl⟩
theorem Sf:Ed.rs=[.c 2 (some 8)]:=rfl
theorem T2 (hl:args.length≤22) (h:Run Ed K [.code MI] (At args) E σ):AP Tryz.prog 67 args σ K:=
 AX (cx:=Ed) (code:=Tryz.f67.body.getD .skip) MP (by kernel_rfl) Tryz.ntmps67 hl (AZ Ed _ (Ax MI) _ [] (by kernel_rfl)) h
def Kp:C:=(.seq (.seq (.reg [Qm 2 0,
 Qo 3 (.nck (.t 2)),
 Qo 4 (.fld (.t 3) 2),
 Qo 5 (.ld (.t 4) none),
 Qo 6 (.un .not (.t 5))] [0,6])
 (.cond (.t 6) (.reg [Qm 7 0,
 Qm 8 0,
 Qm 9 0,
 Qo 10 (.call 64 [(.t 9)]),
 Qo 11 (.fd (.t 10) 2 none),
 Qo 12 (.nck (.t 7)),
 Qo 13 (.fld (.t 12) 2),
 ⟨none,.st (.t 13) (.c (.d (.bool true))) 1,none⟩,
 Qo 14 (.nck (.t 8)),
 Qo 15 (.fld (.t 14) 3),
 ⟨none,.st (.t 15) (.t 11) 1,none⟩] [0])
 .skip))
 (.reg [Qm 16 0,
 Qm 17 0,
 Qo 18 (.nck (.t 17)),
 Qo 19 (.fld (.t 18) 0),
 Qo 20 (.ld (.t 19) none),
 Qo 21 (.len (.t 20)),
 Qo 22 (.bin .sub (.t 21) (.c (.d (.int .i64 1)))),
 Qo 23 (.nck (.t 16)),
 Qo 24 (.fld (.t 23) 1),
 ⟨none,.st (.t 24) (.t 22) 1,none⟩] []))
noncomputable def EL:Cx:=⟨Tryz.prog,68,Tryz.f68,25,[],[],[]⟩
theorem HN:Good EL:=⟨Tryz.func68,by kernel_rfl⟩
theorem R1:EL.rs=[]:=rfl
theorem SK (hl:args.length≤25) (h:Run EL K [.code Kp] (At args) E σ):AP Tryz.prog 68 args σ K:=
 AX (cx:=EL) (code:=Tryz.f68.body.getD .skip) HN (by kernel_rfl) Tryz.ntmps68 hl (AZ EL _ (Ax Kp) _ [] (by kernel_rfl)) h
def Jm:C:=(.seq (.reg [Qo 2 (.mv (.c (.d (.str []))))] [0])
 (.seq (.seq (.reg [Qm 3 0] [3])
 (.block 0 (.seq (.reg [Qo 5 (.bin .eql (.t 3) (.c (.d (.int .i64 1)))),
 Qm 4 5] [3,4])
 (.cond (.t 4) (.seq (.reg [Qo 2 (.mv (.c (.d (.str [43]))))] [2])
 .ret)
 (.seq (.reg [Qo 7 (.bin .eql (.t 3) (.c (.d (.int .i64 2)))),
 Qm 6 7] [3,6])
 (.cond (.t 6) (.seq (.reg [Qo 2 (.mv (.c (.d (.str [45]))))] [2])
 .ret)
 (.seq (.reg [Qo 9 (.bin .eql (.t 3) (.c (.d (.int .i64 3)))),
 Qm 8 9] [3,8])
 (.cond (.t 8) (.seq (.reg [Qo 2 (.mv (.c (.d (.str [42]))))] [2])
 .ret)
 (.seq (.reg [Qo 11 (.bin .eql (.t 3) (.c (.d (.int .i64 4)))),
 Qm 10 11] [3,10])
 (.cond (.t 10) (.seq (.reg [Qo 2 (.mv (.c (.d (.str [47]))))] [2])
 .ret)
 (.seq (.reg [Qo 13 (.bin .eql (.t 3) (.c (.d (.int .i64 5)))),
 Qm 12 13] [3,12])
 (.cond (.t 12) (.seq (.reg [Qo 2 (.mv (.c (.d (.str [37]))))] [2])
 .ret)
 (.seq (.reg [Qo 15 (.bin .eql (.t 3) (.c (.d (.int .i64 6)))),
 Qm 14 15] [3,14])
 (.cond (.t 14) (.seq (.reg [Qo 2 (.mv (.c (.d (.str [60]))))] [2])
 .ret)
 (.seq (.reg [Qo 17 (.bin .eql (.t 3) (.c (.d (.int .i64 7)))),
 Qm 16 17] [16])
 (.cond (.t 16) (.seq (.reg [Qo 2 (.mv (.c (.d (.str [60,61]))))] [2])
 .ret)
 .skip))))))))))))))))
 (.seq (.reg [Qo 2 (.mv (.c (.d (.str [61,61]))))] [2])
 .ret)))
noncomputable def De:Cx:=⟨Tryz.prog,91,Tryz.f91,18,[],[],[.t 2]⟩
theorem Jx:Good De:=⟨Tryz.func91,by kernel_rfl⟩
theorem Q1:De.rs=[.t 2]:=rfl
theorem RG (hl:args.length≤18) (h:Run De K [.code Jm] (At args) E σ):AP Tryz.prog 91 args σ K:=
 AX (cx:=De) (code:=Tryz.f91.body.getD .skip) Jx (by kernel_rfl) Tryz.ntmps91 hl (AZ De _ (Ax Jm) _ [] (by kernel_rfl)) h
def Kv:C:=(.seq (.reg [Qo 4 (.mv (.c (.d (.str []))))] [0,1])
 (.seq (.reg [Qm 6 0,
 Qo 7 (.call 64 [(.t 6)]),
 Qo 5 (.al [(.d (.int .i64 0)),(.d (.str [])),(.d (.int .i64 0))] false),
 ⟨none,.st (.t 5) (.t 7) 3,none⟩] [0,1,5])
 (.seq (.seq (.reg [Qo 8 (.fld (.t 5) 0),
 Qo 9 (.ldl (.t 8) none),
 Qm 10 1,
 Qo 11 (.bin .neq (.t 9) (.t 10))] [0,5,11])
 (.cond (.t 11) (.seq (.reg [Qm 12 0,
 Qo 13 (.call 68 [(.t 12)])] [])
 (.seq (.reg [Qo 4 (.mv (.c (.d (.str []))))] [4])
 .ret))
 .skip))
 (.seq (.reg [Qm 14 0,
 Qo 15 (.nck (.t 14)),
 Qo 16 (.fld (.t 15) 1),
 Qo 17 (.ld (.t 16) none),
 Qo 18 (.bin .add (.t 17) (.c (.d (.int .i64 1)))),
 Qo 19 (.nck (.t 14)),
 Qo 20 (.fld (.t 19) 1),
 ⟨none,.st (.t 20) (.t 18) 1,none⟩] [5])
 (.seq (.reg [Qo 21 (.fld (.t 5) 1),
 Qo 22 (.ldl (.t 21) none),
 Qm 4 22] [4])
 .ret)))))
noncomputable def ER:Cx:=⟨Tryz.prog,124,Tryz.f124,23,[300009,300022],[],[.t 4]⟩
theorem HO:Good ER:=⟨Tryz.func124,by kernel_rfl⟩
theorem R6:ER.rs=[.t 4]:=rfl
theorem SP (hl:args.length≤23) (h:Run ER K [.code Kv] (At args) E σ):AP Tryz.prog 124 args σ K:=
 AX (cx:=ER) (code:=Tryz.f124.body.getD .skip) HO (by kernel_rfl) Tryz.ntmps124 hl (AZ ER _ (Ax Kv) _ [] (by kernel_rfl)) h
def JE:C:=(.seq (.reg [Qo 4 (.mv (.c .AY))] [0,1])
 (.seq (.seq (.reg [Qm 5 0,
 Qo 6 (.call 65 [(.t 5),(.c (.d (.str [40])))]),
 Qo 7 (.un .not (.t 6))] [0,1,7])
 (.cond (.t 7) (.seq (.reg [Qo 4 (.mv (.c .AY))] [4])
 .ret)
 .skip))
 (.seq (.reg [Qm 8 0,
 Qm 9 1,
 Qo 10 (.call 166 [(.t 8),(.t 9)]),
 Qm 4 10] [4])
 .ret)))
noncomputable def DY:Cx:=⟨Tryz.prog,125,Tryz.f125,11,[],[],[.t 4]⟩
theorem GN:Good DY:=⟨Tryz.func125,by kernel_rfl⟩
theorem PX:DY.rs=[.t 4]:=rfl
theorem QI (hl:args.length≤11) (h:Run DY K [.code JE] (At args) E σ):AP Tryz.prog 125 args σ K:=
 AX (cx:=DY) (code:=Tryz.f125.body.getD .skip) GN (by kernel_rfl) Tryz.ntmps125 hl (AZ DY _ (Ax JE) _ [] (by kernel_rfl)) h
def Kq:C:=(.seq (.reg [Qo 2 (.mv (.c (.d (.str []))))] [0])
 (.seq (.reg [Qm 3 0,
 Qo 4 (.call 124 [(.t 3),(.c (.d (.int .i64 1)))]),
 Qm 2 4] [2])
 .ret))
noncomputable def EM:Cx:=⟨Tryz.prog,126,Tryz.f126,5,[],[],[.t 2]⟩
theorem LI:Good EM:=⟨Tryz.func126,by kernel_rfl⟩
theorem R2:EM.rs=[.t 2]:=rfl
theorem SL (hl:args.length≤5) (h:Run EM K [.code Kq] (At args) E σ):AP Tryz.prog 126 args σ K:=
 AX (cx:=EM) (code:=Tryz.f126.body.getD .skip) LI (by kernel_rfl) Tryz.ntmps126 hl (AZ EM _ (Ax Kq) _ [] (by kernel_rfl)) h
def JH:C:=(.seq (.reg [Qm 4 0,
 Qm 5 1,
 Qo 6 (.call 65 [(.t 4),(.t 5)]),
 Qo 7 (.un .not (.t 6))] [0,7])
 (.cond (.t 7) (.reg [Qm 8 0,
 Qo 9 (.call 68 [(.t 8)])] [])
 .skip))
noncomputable def D0:Cx:=⟨Tryz.prog,127,Tryz.f127,10,[],[],[]⟩
theorem GP:Good D0:=⟨Tryz.func127,by kernel_rfl⟩
theorem PZ:D0.rs=[]:=rfl
theorem QJ (hl:args.length≤10) (h:Run D0 K [.code JH] (At args) E σ):AP Tryz.prog 127 args σ K:=
 AX (cx:=D0) (code:=Tryz.f127.body.getD .skip) GP (by kernel_rfl) Tryz.ntmps127 hl (AZ D0 _ (Ax JH) _ [] (by kernel_rfl)) h
def Kk:C:=(.seq (.seq (.reg [Qm 11 0,
 Qm 12 1,
 Qo 13 (.call 65 [(.t 11),(.t 12)])] [0,1,2,7,13])
 (.cond (.t 13) .skip
 (.exit 0)))
 (.block 1 (.reg [Qm 14 7,
 Qm 15 2,
 Qo 16 (.EY (.t 15) []),
 Qo 17 (.bsl 2 1 [(.d (.str [])),.AY] [(0,2,(.t 16))]),
 Qo 18 (.app 72 2 40 (.t 14) (.t 17)),
 Qm 7 18] [0,1,2,7])))
def HA:C:=(.seq (.reg [Qo 6 (.mv (.c .AY))] [0,1,2])
 (.seq (.reg [Qm 8 2,
 Qo 9 (.EY (.t 8) []),
 Qo 10 (.Mp 72 2 1 [(.d (.str [])),.AY] [(0,2,(.t 9))]),
 Qm 7 10] [0,1,2,7])
 (.seq (.block 0 (.loop Kk))
 (.seq (.reg [Qm 19 7,
 Qm 6 19] [6])
 .ret))))
noncomputable def C3:Cx:=⟨Tryz.prog,128,Tryz.f128,20,[10],[],[.t 6]⟩
theorem HJ:Good C3:=⟨Tryz.func128,by kernel_rfl⟩
theorem Mf:C3.rs=[.t 6]:=rfl
theorem NK (hl:args.length≤20) (h:Run C3 K [.code HA] (At args) E σ):AP Tryz.prog 128 args σ K:=
 AX (cx:=C3) (code:=Tryz.f128.body.getD .skip) HJ (by kernel_rfl) Tryz.ntmps128 hl (AZ C3 _ (Ax HA) _ [] (by kernel_rfl)) h
def MH:C:=(.seq (.reg [Qo 2 (.al [(.d (.str [])),.AY] false)] [0,2])
 (.seq (.reg [Qm 4 0,
 Qo 5 (.call 124 [(.t 4),(.c (.d (.int .i64 2)))]),
 Qo 6 (.bld [(.d (.str [])),.AY] [(0,1,(.t 5))]),
 Qo 3 (.al [(.d (.str [])),.AY] false),
 ⟨none,.st (.t 3) (.t 6) 2,none⟩] [0,2,3])
 (.seq (.reg [Qm 7 0,
 Qm 8 0,
 Qo 9 (.mkf 168 [(.t 8)] []),
 Qo 10 (.call 167 [(.t 7),(.t 9)]),
 Qo 11 (.fld (.t 3) 1),
 ⟨none,.st (.t 11) (.t 10) 1,none⟩] [2,3])
 (.seq (.reg [Qo 12 (.ldl (.t 3) (some 2)),
 ⟨none,.st (.t 2) (.t 12) 2,none⟩] [2])
 .ret))))
noncomputable def Ec:Cx:=⟨Tryz.prog,129,Tryz.f129,13,[300012],[],[.c 2 (some 2)]⟩
theorem MO:Good Ec:=⟨Tryz.func129,by kernel_rfl⟩
theorem Se:Ec.rs=[.c 2 (some 2)]:=rfl
theorem T1 (hl:args.length≤13) (h:Run Ec K [.code MH] (At args) E σ):AP Tryz.prog 129 args σ K:=
 AX (cx:=Ec) (code:=Tryz.f129.body.getD .skip) MO (by kernel_rfl) Tryz.ntmps129 hl (AZ Ec _ (Ax MH) _ [] (by kernel_rfl)) h
def Iz:C:=(.seq (.reg [Qo 4 (.mv (.c .AY))] [0,1])
 (.seq (.seq (.reg [Qm 5 0,
 Qo 6 (.call 65 [(.t 5),(.c (.d (.str [41])))])] [0,1,6])
 (.cond (.t 6) (.seq (.reg [Qo 4 (.mv (.c .AY))] [4])
 .ret)
 .skip))
 (.seq (.reg [Qm 7 0,
 Qm 8 1,
 Qo 9 (.call 166 [(.t 7),(.t 8)]),
 Qm 4 9] [4])
 .ret)))
noncomputable def DR:Cx:=⟨Tryz.prog,130,Tryz.f130,10,[],[],[.t 4]⟩
theorem GL:Good DR:=⟨Tryz.func130,by kernel_rfl⟩
theorem PR:DR.rs=[.t 4]:=rfl
theorem QD (hl:args.length≤10) (h:Run DR K [.code Iz] (At args) E σ):AP Tryz.prog 130 args σ K:=
 AX (cx:=DR) (code:=Tryz.f130.body.getD .skip) GL (by kernel_rfl) Tryz.ntmps130 hl (AZ DR _ (Ax Iz) _ [] (by kernel_rfl)) h
def Ko:C:=(.seq (.reg [Qo 2 (.al [(.d (.int .i64 0)),(.d (.str [])),(.d (.int .i64 0)),.AY,.AY,.AY] false)] [0,2])
 (.seq (.block 0 (.seq (.reg [Qm 11 0,
 Qo 12 (.call 65 [(.t 11),(.c (.d (.str [108,101,116])))]),
 Qm 10 12] [0,2,10])
 (.cond (.t 10) (.seq (.reg [Qm 13 0,
 Qo 14 (.call 169 [(.t 13)]),
 ⟨none,.st (.t 2) (.t 14) 6,none⟩] [2])
 .ret)
 (.seq (.reg [Qm 16 0,
 Qo 17 (.call 65 [(.t 16),(.c (.d (.str [105,102])))]),
 Qm 15 17] [0,2,15])
 (.cond (.t 15) (.seq (.reg [Qm 18 0,
 Qo 19 (.call 131 [(.t 18)]),
 Qo 3 (.al [(.d (.int .i64 0)),(.d (.str [])),(.d (.int .i64 0)),.AY,.AY,.AY] false),
 ⟨none,.st (.t 3) (.t 19) 6,none⟩] [0,2,3])
 (.seq (.reg [Qm 20 0,
 Qo 21 (.call 127 [(.t 20),(.c (.d (.str [116,104,101,110])))])] [0,2,3])
 (.seq (.reg [Qm 22 0,
 Qo 23 (.call 131 [(.t 22)]),
 Qo 4 (.al [(.d (.int .i64 0)),(.d (.str [])),(.d (.int .i64 0)),.AY,.AY,.AY] false),
 ⟨none,.st (.t 4) (.t 23) 6,none⟩] [0,2,3,4])
 (.seq (.reg [Qm 24 0,
 Qo 25 (.call 127 [(.t 24),(.c (.d (.str [101,108,115,101])))])] [0,2,3,4])
 (.seq (.reg [Qo 26 (.ldl (.t 3) (some 6)),
 Qo 27 (.ldl (.t 4) (some 6)),
 Qm 28 0,
 Qo 29 (.call 131 [(.t 28)]),
 Qo 30 (.bsl 6 3 [(.d (.int .i64 0)),(.d (.str [])),(.d (.int .i64 0)),.AY,.AY,.AY,(.d (.int .i64 0)),(.d (.str [])),(.d (.int .i64 0)),.AY,.AY,.AY,(.d (.int .i64 0)),(.d (.str [])),(.d (.int .i64 0)),.AY,.AY,.AY] [(0,6,(.t 26)),(6,6,(.t 27)),(12,6,(.t 29))]),
 Qo 31 (.bld [(.d (.int .i64 0)),(.d (.str [])),(.d (.int .i64 0)),.AY,.AY,.AY] [(0,1,(.c (.d (.int .i64 9)))),(4,1,(.t 30))]),
 ⟨none,.st (.t 2) (.t 31) 6,none⟩] [2])
 .ret)))))
 (.seq (.reg [Qm 33 0,
 Qo 34 (.call 65 [(.t 33),(.c (.d (.str [109,97,116,99,104])))]),
 Qm 32 34] [0,2,32])
 (.cond (.t 32) (.seq (.reg [Qm 35 0,
 Qo 36 (.call 131 [(.t 35)]),
 Qo 37 (.bsl 6 1 [(.d (.int .i64 0)),(.d (.str [])),(.d (.int .i64 0)),.AY,.AY,.AY] [(0,6,(.t 36))]),
 Qo 38 (.bld [(.d (.int .i64 0)),(.d (.str [])),(.d (.int .i64 0)),.AY,.AY,.AY] [(0,1,(.c (.d (.int .i64 10)))),(4,1,(.t 37))]),
 Qo 5 (.al [(.d (.int .i64 0)),(.d (.str [])),(.d (.int .i64 0)),.AY,.AY,.AY] false),
 ⟨none,.st (.t 5) (.t 38) 6,none⟩] [0,2,5])
 (.seq (.reg [Qm 39 0,
 Qo 40 (.call 127 [(.t 39),(.c (.d (.str [119,105,116,104])))])] [0,2,5])
 (.seq (.reg [Qm 41 0,
 Qm 42 0,
 Qo 43 (.mkf 171 [(.t 42)] []),
 Qo 44 (.call 170 [(.t 41),(.c (.d (.str [124]))),(.t 43)]),
 Qo 45 (.fld (.t 5) 5),
 ⟨none,.st (.t 45) (.t 44) 1,none⟩] [0,2,5])
 (.seq (.reg [Qm 46 0,
 Qo 47 (.call 127 [(.t 46),(.c (.d (.str [101,110,100])))])] [2,5])
 (.seq (.reg [Qo 48 (.ldl (.t 5) (some 6)),
 ⟨none,.st (.t 2) (.t 48) 6,none⟩] [2])
 .ret)))))
 (.seq (.reg [Qm 50 0,
 Qo 51 (.call 65 [(.t 50),(.c (.d (.str [102,110])))]),
 Qm 49 51] [0,2,49])
 (.cond (.t 49) (.seq (.reg [Qm 52 0,
 Qo 53 (.call 127 [(.t 52),(.c (.d (.str [40])))])] [0,2])
 (.seq (.reg [Qm 54 0,
 Qm 55 0,
 Qo 56 (.mkf 126 [(.t 55)] []),
 Qo 57 (.call 130 [(.t 54),(.t 56)]),
 Qo 58 (.bld [(.d (.int .i64 0)),(.d (.str [])),(.d (.int .i64 0)),.AY,.AY,.AY] [(0,1,(.c (.d (.int .i64 11)))),(3,1,(.t 57))]),
 Qo 6 (.al [(.d (.int .i64 0)),(.d (.str [])),(.d (.int .i64 0)),.AY,.AY,.AY] false),
 ⟨none,.st (.t 6) (.t 58) 6,none⟩] [0,2,6])
 (.seq (.reg [Qm 59 0,
 Qo 60 (.call 127 [(.t 59),(.c (.d (.str [45,62])))])] [0,2,6])
 (.seq (.reg [Qm 61 0,
 Qo 62 (.call 131 [(.t 61)]),
 Qo 63 (.bsl 6 1 [(.d (.int .i64 0)),(.d (.str [])),(.d (.int .i64 0)),.AY,.AY,.AY] [(0,6,(.t 62))]),
 Qo 64 (.fld (.t 6) 4),
 ⟨none,.st (.t 64) (.t 63) 1,none⟩] [2,6])
 (.seq (.reg [Qo 65 (.ldl (.t 6) (some 6)),
 ⟨none,.st (.t 2) (.t 65) 6,none⟩] [2])
 .ret)))))
 (.seq (.reg [Qm 67 0,
 Qo 68 (.call 65 [(.t 67),(.c (.d (.str [116,114,121])))]),
 Qm 66 68] [0,2,66])
 (.cond (.t 66) (.seq (.reg [Qm 69 0,
 Qo 70 (.call 131 [(.t 69)]),
 Qo 7 (.al [(.d (.int .i64 0)),(.d (.str [])),(.d (.int .i64 0)),.AY,.AY,.AY] false),
 ⟨none,.st (.t 7) (.t 70) 6,none⟩] [0,2,7])
 (.seq (.reg [Qm 71 0,
 Qo 72 (.call 127 [(.t 71),(.c (.d (.str [99,97,116,99,104])))])] [0,2,7])
 (.seq (.reg [Qm 73 0,
 Qo 74 (.call 172 [(.t 73)]),
 Qm 8 74] [0,2,7,8])
 (.seq (.reg [Qm 75 0,
 Qo 76 (.call 127 [(.t 75),(.c (.d (.str [45,62])))])] [0,2,7,8])
 (.seq (.reg [Qm 77 0,
 Qo 78 (.call 131 [(.t 77)]),
 Qo 9 (.al [(.d (.int .i64 0)),(.d (.str [])),(.d (.int .i64 0)),.AY,.AY,.AY] false),
 ⟨none,.st (.t 9) (.t 78) 6,none⟩] [0,2,7,8,9])
 (.seq (.reg [Qm 79 0,
 Qo 80 (.call 127 [(.t 79),(.c (.d (.str [101,110,100])))])] [2,7,8,9])
 (.seq (.reg [Qm 81 8,
 Qo 82 (.ldl (.t 7) (some 6)),
 Qo 83 (.ldl (.t 9) (some 6)),
 Qo 84 (.bsl 6 2 [(.d (.int .i64 0)),(.d (.str [])),(.d (.int .i64 0)),.AY,.AY,.AY,(.d (.int .i64 0)),(.d (.str [])),(.d (.int .i64 0)),.AY,.AY,.AY] [(0,6,(.t 82)),(6,6,(.t 83))]),
 Qo 85 (.bld [(.d (.int .i64 0)),(.d (.str [])),(.d (.int .i64 0)),.AY,.AY,.AY] [(0,1,(.c (.d (.int .i64 17)))),(1,1,(.t 81)),(4,1,(.t 84))]),
 ⟨none,.st (.t 2) (.t 85) 6,none⟩] [2])
 .ret)))))))
 .skip)))))))))))
 (.seq (.reg [Qm 86 0,
 Qo 87 (.call 173 [(.t 86)]),
 ⟨none,.st (.t 2) (.t 87) 6,none⟩] [2])
 .ret)))
noncomputable def EJ:Cx:=⟨Tryz.prog,131,Tryz.f131,88,[300026,300027,300048,300065,300082,300083],[],[.c 2 (some 6)]⟩
theorem CZ:Good EJ:=⟨Tryz.func131,by kernel_rfl⟩
theorem R0:EJ.rs=[.c 2 (some 6)]:=rfl
theorem SJ (hl:args.length≤88) (h:Run EJ K [.code Ko] (At args) E σ):AP Tryz.prog 131 args σ K:=
 AX (cx:=EJ) (code:=Tryz.f131.body.getD .skip) CZ (by kernel_rfl) Tryz.ntmps131 hl (AZ EJ _ (Ax Ko) _ [] (by kernel_rfl)) h
def JD:C:=(.seq (.reg [Qo 2 (.mv (.c (.d (.int .i64 0))))] [0])
 (.seq (.seq (.reg [Qm 3 0] [3])
 (.block 0 (.seq (.seq (.reg [Qo 5 (.bin .eql (.t 3) (.c (.d (.int .i64 1)))),
 Qm 4 5] [3,4])
 (.cond (.t 4) .skip
 (.reg [Qo 6 (.bin .eql (.t 3) (.c (.d (.int .i64 2)))),
 Qm 4 6] [3,4])))
 (.cond (.t 4) (.seq (.reg [Qo 2 (.mv (.c (.d (.int .i64 2))))] [2])
 .ret)
 (.seq (.seq (.reg [Qo 8 (.bin .eql (.t 3) (.c (.d (.int .i64 3)))),
 Qm 7 8] [3,7])
 (.cond (.t 7) .skip
 (.seq (.reg [Qo 9 (.bin .eql (.t 3) (.c (.d (.int .i64 4)))),
 Qm 7 9] [3,7])
 (.cond (.t 7) .skip
 (.reg [Qo 10 (.bin .eql (.t 3) (.c (.d (.int .i64 5)))),
 Qm 7 10] [7])))))
 (.cond (.t 7) (.seq (.reg [Qo 2 (.mv (.c (.d (.int .i64 3))))] [2])
 .ret)
 .skip))))))
 (.seq (.reg [Qo 2 (.mv (.c (.d (.int .i64 1))))] [2])
 .ret)))
noncomputable def DX:Cx:=⟨Tryz.prog,138,Tryz.f138,11,[],[],[.t 2]⟩
theorem GM:Good DX:=⟨Tryz.func138,by kernel_rfl⟩
theorem PW:DX.rs=[.t 2]:=rfl
theorem QH (hl:args.length≤11) (h:Run DX K [.code JD] (At args) E σ):AP Tryz.prog 138 args σ K:=
 AX (cx:=DX) (code:=Tryz.f138.body.getD .skip) GM (by kernel_rfl) Tryz.ntmps138 hl (AZ DX _ (Ax JD) _ [] (by kernel_rfl)) h
def JB:C:=(.seq (.reg [Qo 4 (.mv (.c .AY))] [0,1])
 (.seq (.reg [Qm 6 0,
 Qm 7 1,
 Qo 8 (.call 182 [(.t 6),(.c (.d (.str [44]))),(.t 7)]),
 Qm 5 8] [0,5])
 (.seq (.reg [Qm 9 0,
 Qo 10 (.call 127 [(.t 9),(.c (.d (.str [41])))])] [5])
 (.seq (.reg [Qm 11 5,
 Qm 4 11] [4])
 .ret))))
noncomputable def DU:Cx:=⟨Tryz.prog,166,Tryz.f166,12,[],[],[.t 4]⟩
theorem JP:Good DU:=⟨Tryz.func166,by kernel_rfl⟩
theorem PU:DU.rs=[.t 4]:=rfl
theorem QF (hl:args.length≤12) (h:Run DU K [.code JB] (At args) E σ):AP Tryz.prog 166 args σ K:=
 AX (cx:=DU) (code:=Tryz.f166.body.getD .skip) JP (by kernel_rfl) Tryz.ntmps166 hl (AZ DU _ (Ax JB) _ [] (by kernel_rfl)) h
def G3:C:=(.seq (.reg [Qo 4 (.mv (.c .AY))] [0,1])
 (.seq (.seq (.reg [Qm 5 0,
 Qo 6 (.call 65 [(.t 5),(.c (.d (.str [40])))]),
 Qo 7 (.un .not (.t 6))] [0,1,7])
 (.cond (.t 7) (.seq (.reg [Qo 4 (.mv (.c .AY))] [4])
 .ret)
 .skip))
 (.seq (.reg [Qm 8 0,
 Qm 9 1,
 Qo 10 (.call 183 [(.t 8),(.t 9)]),
 Qm 4 10] [4])
 .ret)))
noncomputable def CA:Cx:=⟨Tryz.prog,167,Tryz.f167,11,[],[],[.t 4]⟩
theorem E2:Good CA:=⟨Tryz.func167,by kernel_rfl⟩
theorem LY:CA.rs=[.t 4]:=rfl
theorem Ln (hl:args.length≤11) (h:Run CA K [.code G3] (At args) E σ):AP Tryz.prog 167 args σ K:=
 AX (cx:=CA) (code:=Tryz.f167.body.getD .skip) E2 (by kernel_rfl) Tryz.ntmps167 hl (AZ CA _ (Ax G3) _ [] (by kernel_rfl)) h
def TW:C:=(.seq (.reg [Qo 2 (.al [(.d (.int .i64 0)),(.d (.str [])),.AY] false)] [0,2])
 (.seq (.seq (.reg [Qm 7 0,
 Qo 8 (.call 64 [(.t 7)]),
 Qo 3 (.al [(.d (.int .i64 0)),(.d (.str [])),(.d (.int .i64 0))] false),
 ⟨none,.st (.t 3) (.t 8) 3,none⟩] [0,2,3])
 (.block 0 (.seq (.reg [Qo 10 (.fld (.t 3) 0),
 Qo 11 (.ldl (.t 10) none),
 Qo 12 (.bin .eql (.t 11) (.c (.d (.int .i64 1)))),
 Qm 9 12] [0,2,3,9])
 (.cond (.t 9) (.seq (.reg [Qm 13 0,
 Qo 14 (.call 126 [(.t 13)]),
 Qo 15 (.bld [(.d (.int .i64 0)),(.d (.str [])),.AY] [(0,1,(.c (.d (.int .i64 4)))),(1,1,(.t 14))]),
 ⟨none,.st (.t 2) (.t 15) 3,none⟩] [2])
 .ret)
 (.seq (.reg [Qo 17 (.fld (.t 3) 0),
 Qo 18 (.ldl (.t 17) none),
 Qo 19 (.bin .eql (.t 18) (.c (.d (.int .i64 2)))),
 Qm 16 19] [0,2,16])
 (.cond (.t 16) (.seq (.reg [Qm 20 0,
 Qo 21 (.call 124 [(.t 20),(.c (.d (.int .i64 2)))]),
 Qo 22 (.bld [(.d (.int .i64 0)),(.d (.str [])),.AY] [(0,1,(.c (.d (.int .i64 5)))),(1,1,(.t 21))]),
 Qo 4 (.al [(.d (.int .i64 0)),(.d (.str [])),.AY] false),
 ⟨none,.st (.t 4) (.t 22) 3,none⟩] [0,2,4])
 (.seq (.reg [Qm 23 0,
 Qm 24 0,
 Qo 25 (.mkf 168 [(.t 24)] []),
 Qo 26 (.call 167 [(.t 23),(.t 25)]),
 Qo 27 (.fld (.t 4) 2),
 ⟨none,.st (.t 27) (.t 26) 1,none⟩] [2,4])
 (.seq (.reg [Qo 28 (.ldl (.t 4) (some 3)),
 ⟨none,.st (.t 2) (.t 28) 3,none⟩] [2])
 .ret)))
 (.seq (.reg [Qm 30 0,
 Qo 31 (.call 65 [(.t 30),(.c (.d (.str [105,110,116])))]),
 Qm 29 31] [0,2,29])
 (.cond (.t 29) (.seq (.reg [Qo 32 (.bld [(.d (.int .i64 0)),(.d (.str [])),.AY] [(0,1,(.c (.d (.int .i64 1))))]),
 ⟨none,.st (.t 2) (.t 32) 3,none⟩] [2])
 .ret)
 (.seq (.reg [Qm 34 0,
 Qo 35 (.call 65 [(.t 34),(.c (.d (.str [98,111,111,108])))]),
 Qm 33 35] [0,2,33])
 (.cond (.t 33) (.seq (.reg [Qo 36 (.bld [(.d (.int .i64 0)),(.d (.str [])),.AY] [(0,1,(.c (.d (.int .i64 2))))]),
 ⟨none,.st (.t 2) (.t 36) 3,none⟩] [2])
 .ret)
 (.seq (.reg [Qm 38 0,
 Qo 39 (.call 65 [(.t 38),(.c (.d (.str [117,110,105,116])))]),
 Qm 37 39] [0,2,37])
 (.cond (.t 37) (.seq (.reg [Qo 40 (.bld [(.d (.int .i64 0)),(.d (.str [])),.AY] [(0,1,(.c (.d (.int .i64 3))))]),
 ⟨none,.st (.t 2) (.t 40) 3,none⟩] [2])
 .ret)
 (.seq (.reg [Qm 42 0,
 Qo 43 (.call 65 [(.t 42),(.c (.d (.str [97,114,114,97,121])))]),
 Qm 41 43] [0,2,41])
 (.cond (.t 41) (.seq (.reg [Qm 44 0,
 Qo 45 (.call 184 [(.t 44),(.c (.d (.int .i64 7)))]),
 ⟨none,.st (.t 2) (.t 45) 3,none⟩] [2])
 .ret)
 (.seq (.reg [Qm 47 0,
 Qo 48 (.call 65 [(.t 47),(.c (.d (.str [114,101,102])))]),
 Qm 46 48] [0,2,46])
 (.cond (.t 46) (.seq (.reg [Qm 49 0,
 Qo 50 (.call 184 [(.t 49),(.c (.d (.int .i64 8)))]),
 ⟨none,.st (.t 2) (.t 50) 3,none⟩] [2])
 .ret)
 (.seq (.reg [Qm 52 0,
 Qo 53 (.call 65 [(.t 52),(.c (.d (.str [40])))]),
 Qm 51 53] [0,2,51])
 (.cond (.t 51) (.seq (.reg [Qm 54 0,
 Qo 55 (.call 168 [(.t 54)]),
 Qo 5 (.al [(.d (.int .i64 0)),(.d (.str [])),.AY] false),
 ⟨none,.st (.t 5) (.t 55) 3,none⟩] [0,2,5])
 (.seq (.reg [Qm 56 0,
 Qo 57 (.call 127 [(.t 56),(.c (.d (.str [44])))])] [0,2,5])
 (.seq (.FZ (.one (Qo 58 (.ldl (.t 5) (some 3)))
 (.one (Qm 60 0)
 (.one (Qm 61 0)
 (.one (Qo 62 (.mkf 168 [(.t 61)] []))
 (.alt (Qo 59 (.Mp 75 3 1 [(.d (.int .i64 0)),(.d (.str [])),.AY] [(0,3,(.t 58))]))
 (.one (Qo 63 (.call 183 [(.t 60),(.t 62)]))
 (.one (Qo 64 (.app 75 3 48 (.t 59) (.t 63)))
 (.one (Qo 65 (.bld [(.d (.int .i64 0)),(.d (.str [])),.AY] [(0,1,(.c (.d (.int .i64 6)))),(2,1,(.t 64))]))
 (.one ⟨none,.st (.t 2) (.t 65) 3,none⟩
 .done))))
 (.alt (Qo 63 (.call 183 [(.t 60),(.t 62)]))
 (.one (Qo 59 (.Mp 75 3 1 [(.d (.int .i64 0)),(.d (.str [])),.AY] [(0,3,(.t 58))]))
 (.one (Qo 64 (.app 75 3 48 (.t 59) (.t 63)))
 (.one (Qo 65 (.bld [(.d (.int .i64 0)),(.d (.str [])),.AY] [(0,1,(.c (.d (.int .i64 6)))),(2,1,(.t 64))]))
 (.one ⟨none,.st (.t 2) (.t 65) 3,none⟩
 .done))))
 .done)))))) [2])
 .ret)))
 (.seq (.reg [Qm 67 0,
 Qo 68 (.call 65 [(.t 67),(.c (.d (.str [102,110])))]),
 Qm 66 68] [0,2,66])
 (.cond (.t 66) (.seq (.reg [Qm 69 0,
 Qo 70 (.call 127 [(.t 69),(.c (.d (.str [40])))])] [0,2])
 (.seq (.reg [Qm 71 0,
 Qm 72 0,
 Qo 73 (.mkf 168 [(.t 72)] []),
 Qo 74 (.call 185 [(.t 71),(.t 73)]),
 Qm 6 74] [0,2,6])
 (.seq (.reg [Qm 75 0,
 Qo 76 (.call 127 [(.t 75),(.c (.d (.str [45,62])))])] [0,2,6])
 (.seq (.reg [Qm 77 6,
 Qm 78 0,
 Qo 79 (.call 168 [(.t 78)]),
 Qo 80 (.bsl 3 1 [(.d (.int .i64 0)),(.d (.str [])),.AY] [(0,3,(.t 79))]),
 Qo 81 (.app 75 3 48 (.t 77) (.t 80)),
 Qo 82 (.bld [(.d (.int .i64 0)),(.d (.str [])),.AY] [(0,1,(.c (.d (.int .i64 9)))),(2,1,(.t 81))]),
 ⟨none,.st (.t 2) (.t 82) 3,none⟩] [2])
 .ret))))
 .skip))))))))))))))))))))
 (.seq (.reg [Qm 83 0,
 Qo 84 (.call 68 [(.t 83)])] [2])
 (.seq (.reg [Qo 85 (.bld [(.d (.int .i64 0)),(.d (.str [])),.AY] []),
 ⟨none,.st (.t 2) (.t 85) 3,none⟩] [2])
 .ret))))
def Tg:List (List Nat×PT):=[([0,2],.done),([0,2,3],.done),([0,2,3,9],.done),([2],.done),([0,2,16],.done),([0,2,4],.done),([2,4],.done),([2],.done),([0,2,29],.done),([2],.done),([0,2,33],.done),([2],.done),([0,2,37],.done),([2],.done),([0,2,41],.done),([2],.done),([0,2,46],.done),([2],.done),([0,2,51],.done),([0,2,5],.done),([0,2,5],.done),([2],(.one 0 (.one 2 (.one 3 (.one 4 (.alt 1 (.one 5 (.one 6 (.one 7 (.one 8 .done)))) (.alt 5 (.one 1 (.one 6 (.one 7 (.one 8 .done)))) .done))))))),([0,2,66],.done),([0,2],.done),([0,2,6],.done),([0,2,6],.done),([2],.done),([2],.done),([2],.done)]
noncomputable def Eg:Cx:=⟨Tryz.prog,168,Tryz.f168,86,[59,300011,300018,300028,300058],[],[.c 2 (some 3)]⟩
theorem BT:Good Eg:=⟨Tryz.func168,by kernel_rfl⟩
theorem Si:Eg.rs=[.c 2 (some 3)]:=rfl
theorem T5 (hl:args.length≤86) (h:Run Eg K [.code TW] (At args) E σ):AP Tryz.prog 168 args σ K:=
 AX (cx:=Eg) (code:=Tryz.f168.body.getD .skip) BT (by kernel_rfl) Tryz.ntmps168 hl (AZ Eg _ Tg _ [] (by kernel_rfl)) h
def MJ:C:=(.seq (.reg [Qo 2 (.al [(.d (.int .i64 0)),(.d (.str [])),(.d (.int .i64 0)),.AY,.AY,.AY] false)] [0,2])
 (.seq (.reg [Qo 3 (.al [(.d (.int .i64 0)),(.d (.str [])),(.d (.int .i64 0)),.AY,.AY,.AY] false)] [0,2,3])
 (.seq (.seq (.reg [Qm 6 0,
 Qo 7 (.call 65 [(.t 6),(.c (.d (.str [40])))])] [0,2,3,7])
 (.cond (.t 7) (.seq (.reg [Qm 8 0,
 Qo 9 (.call 172 [(.t 8)]),
 Qm 4 9] [0,2,3,4])
 (.seq (.reg [Qm 10 0,
 Qo 11 (.call 127 [(.t 10),(.c (.d (.str [44])))])] [0,2,3,4])
 (.reg [Qm 12 4,
 Qo 13 (.Mp 9 1 1 [(.d (.str []))] [(0,1,(.t 12))]),
 Qm 14 0,
 Qm 15 0,
 Qo 16 (.mkf 172 [(.t 15)] []),
 Qo 17 (.call 166 [(.t 14),(.t 16)]),
 Qo 18 (.app 9 1 16 (.t 13) (.t 17)),
 Qo 19 (.fld (.t 3) 0),
 ⟨none,.st (.t 19) (.c (.d (.int .i64 8))) 1,none⟩,
 Qo 20 (.fld (.t 3) 3),
 ⟨none,.st (.t 20) (.t 18) 1,none⟩] [0,2,3])))
 (.reg [Qm 21 0,
 Qo 22 (.call 172 [(.t 21)]),
 Qo 23 (.fld (.t 3) 0),
 ⟨none,.st (.t 23) (.c (.d (.int .i64 7))) 1,none⟩,
 Qo 24 (.fld (.t 3) 1),
 ⟨none,.st (.t 24) (.t 22) 1,none⟩] [0,2,3])))
 (.seq (.reg [Qm 25 0,
 Qo 26 (.call 127 [(.t 25),(.c (.d (.str [61])))])] [0,2,3])
 (.seq (.reg [Qm 27 0,
 Qo 28 (.call 131 [(.t 27)]),
 Qo 5 (.al [(.d (.int .i64 0)),(.d (.str [])),(.d (.int .i64 0)),.AY,.AY,.AY] false),
 ⟨none,.st (.t 5) (.t 28) 6,none⟩] [0,2,3,5])
 (.seq (.reg [Qm 29 0,
 Qo 30 (.call 127 [(.t 29),(.c (.d (.str [105,110])))])] [0,2,3,5])
 (.seq (.reg [Qo 31 (.ldl (.t 5) (some 6)),
 Qm 32 0,
 Qo 33 (.call 131 [(.t 32)]),
 Qo 34 (.bsl 6 2 [(.d (.int .i64 0)),(.d (.str [])),(.d (.int .i64 0)),.AY,.AY,.AY,(.d (.int .i64 0)),(.d (.str [])),(.d (.int .i64 0)),.AY,.AY,.AY] [(0,6,(.t 31)),(6,6,(.t 33))]),
 Qo 35 (.fld (.t 3) 4),
 ⟨none,.st (.t 35) (.t 34) 1,none⟩] [2,3])
 (.seq (.reg [Qo 36 (.ldl (.t 3) (some 6)),
 ⟨none,.st (.t 2) (.t 36) 6,none⟩] [2])
 .ret))))))))
noncomputable def Ee:Cx:=⟨Tryz.prog,169,Tryz.f169,37,[13,300031,300036],[],[.c 2 (some 6)]⟩
theorem Hj:Good Ee:=⟨Tryz.func169,by kernel_rfl⟩
theorem Sg:Ee.rs=[.c 2 (some 6)]:=rfl
theorem T3 (hl:args.length≤37) (h:Run Ee K [.code MJ] (At args) E σ):AP Tryz.prog 169 args σ K:=
 AX (cx:=Ee) (code:=Tryz.f169.body.getD .skip) Hj (by kernel_rfl) Tryz.ntmps169 hl (AZ Ee _ (Ax MJ) _ [] (by kernel_rfl)) h
def Nj:C:=(.seq (.seq (.reg [Qm 11 0,
 Qm 12 1,
 Qo 13 (.call 65 [(.t 11),(.t 12)])] [0,1,2,7,13])
 (.cond (.t 13) .skip
 (.exit 0)))
 (.block 1 (.reg [Qm 14 7,
 Qm 15 2,
 Qo 16 (.EY (.t 15) []),
 Qo 17 (.bsl 8 1 [(.d (.str [])),.AY,(.d (.int .i64 0)),(.d (.str [])),(.d (.int .i64 0)),.AY,.AY,.AY] [(0,8,(.t 16))]),
 Qo 18 (.app 112 8 144 (.t 14) (.t 17)),
 Qm 7 18] [0,1,2,7])))
def JA:C:=(.seq (.reg [Qo 6 (.mv (.c .AY))] [0,1,2])
 (.seq (.reg [Qm 8 2,
 Qo 9 (.EY (.t 8) []),
 Qo 10 (.Mp 112 8 1 [(.d (.str [])),.AY,(.d (.int .i64 0)),(.d (.str [])),(.d (.int .i64 0)),.AY,.AY,.AY] [(0,8,(.t 9))]),
 Qm 7 10] [0,1,2,7])
 (.seq (.block 0 (.loop Nj))
 (.seq (.reg [Qm 19 7,
 Qm 6 19] [6])
 .ret))))
noncomputable def DS:Cx:=⟨Tryz.prog,170,Tryz.f170,20,[10],[],[.t 6]⟩
theorem JO:Good DS:=⟨Tryz.func170,by kernel_rfl⟩
theorem PS:DS.rs=[.t 6]:=rfl
theorem QE (hl:args.length≤20) (h:Run DS K [.code JA] (At args) E σ):AP Tryz.prog 170 args σ K:=
 AX (cx:=DS) (code:=Tryz.f170.body.getD .skip) JO (by kernel_rfl) Tryz.ntmps170 hl (AZ DS _ (Ax JA) _ [] (by kernel_rfl)) h
def MG:C:=(.seq (.reg [Qo 2 (.al [(.d (.str [])),.AY,(.d (.int .i64 0)),(.d (.str [])),(.d (.int .i64 0)),.AY,.AY,.AY] false)] [0,2])
 (.seq (.reg [Qm 4 0,
 Qo 5 (.call 124 [(.t 4),(.c (.d (.int .i64 2)))]),
 Qo 6 (.bld [(.d (.str [])),.AY,(.d (.int .i64 0)),(.d (.str [])),(.d (.int .i64 0)),.AY,.AY,.AY] [(0,1,(.t 5))]),
 Qo 3 (.al [(.d (.str [])),.AY,(.d (.int .i64 0)),(.d (.str [])),(.d (.int .i64 0)),.AY,.AY,.AY] false),
 ⟨none,.st (.t 3) (.t 6) 8,none⟩] [0,2,3])
 (.seq (.reg [Qm 7 0,
 Qm 8 0,
 Qo 9 (.mkf 172 [(.t 8)] []),
 Qo 10 (.call 125 [(.t 7),(.t 9)]),
 Qo 11 (.fld (.t 3) 1),
 ⟨none,.st (.t 11) (.t 10) 1,none⟩] [0,2,3])
 (.seq (.reg [Qm 12 0,
 Qo 13 (.call 127 [(.t 12),(.c (.d (.str [45,62])))])] [0,2,3])
 (.seq (.reg [Qm 14 0,
 Qo 15 (.call 131 [(.t 14)]),
 Qo 16 (.fld (.t 3) 2),
 ⟨none,.st (.t 16) (.t 15) 6,none⟩] [2,3])
 (.seq (.reg [Qo 17 (.ldl (.t 3) (some 8)),
 ⟨none,.st (.t 2) (.t 17) 8,none⟩] [2])
 .ret))))))
noncomputable def Eb:Cx:=⟨Tryz.prog,171,Tryz.f171,18,[300017],[],[.c 2 (some 8)]⟩
theorem MM:Good Eb:=⟨Tryz.func171,by kernel_rfl⟩
theorem Sc:Eb.rs=[.c 2 (some 8)]:=rfl
theorem TZ (hl:args.length≤18) (h:Run Eb K [.code MG] (At args) E σ):AP Tryz.prog 171 args σ K:=
 AX (cx:=Eb) (code:=Tryz.f171.body.getD .skip) MM (by kernel_rfl) Tryz.ntmps171 hl (AZ Eb _ (Ax MG) _ [] (by kernel_rfl)) h
def Kl:C:=(.seq (.reg [Qo 2 (.mv (.c (.d (.str []))))] [0])
 (.seq (.seq (.reg [Qm 3 0,
 Qo 4 (.call 65 [(.t 3),(.c (.d (.str [95])))])] [0,4])
 (.cond (.t 4) (.seq (.reg [Qo 2 (.mv (.c (.d (.str []))))] [2])
 .ret)
 .skip))
 (.seq (.reg [Qm 5 0,
 Qo 6 (.call 126 [(.t 5)]),
 Qm 2 6] [2])
 .ret)))
noncomputable def EG:Cx:=⟨Tryz.prog,172,Tryz.f172,7,[],[],[.t 2]⟩
theorem HL:Good EG:=⟨Tryz.func172,by kernel_rfl⟩
theorem RX:EG.rs=[.t 2]:=rfl
theorem SG (hl:args.length≤7) (h:Run EG K [.code Kl] (At args) E σ):AP Tryz.prog 172 args σ K:=
 AX (cx:=EG) (code:=Tryz.f172.body.getD .skip) HL (by kernel_rfl) Tryz.ntmps172 hl (AZ EG _ (Ax Kl) _ [] (by kernel_rfl)) h
def Km:C:=(.seq (.reg [Qo 2 (.al [(.d (.int .i64 0)),(.d (.str [])),(.d (.int .i64 0)),.AY,.AY,.AY] false)] [0,2])
 (.seq (.reg [Qm 5 0,
 Qo 6 (.call 186 [(.t 5)]),
 Qo 3 (.al [(.d (.int .i64 0)),(.d (.str [])),(.d (.int .i64 0)),.AY,.AY,.AY] false),
 ⟨none,.st (.t 3) (.t 6) 6,none⟩] [0,2,3])
 (.seq (.seq (.reg [Qm 7 0,
 Qo 8 (.call 187 [(.t 7),(.c (.d (.int .i64 1)))]),
 Qm 4 8] [0,2,3,4])
 (.seq (.reg [Qm 9 4,
 Qo 10 (.bin .neq (.t 9) (.c (.d (.int .i64 0))))] [0,2,3,4,10])
 (.cond (.t 10) (.seq (.reg [Qm 11 4,
 Qo 12 (.ldl (.t 3) (some 6)),
 Qm 13 0,
 Qo 14 (.call 186 [(.t 13)]),
 Qo 15 (.call 188 [(.t 11),(.t 12),(.t 14)]),
 ⟨none,.st (.t 2) (.t 15) 6,none⟩] [2])
 .ret)
 .skip)))
 (.seq (.reg [Qo 16 (.ldl (.t 3) (some 6)),
 ⟨none,.st (.t 2) (.t 16) 6,none⟩] [2])
 .ret))))
noncomputable def EH:Cx:=⟨Tryz.prog,173,Tryz.f173,17,[300012,300016],[],[.c 2 (some 6)]⟩
theorem HM:Good EH:=⟨Tryz.func173,by kernel_rfl⟩
theorem RY:EH.rs=[.c 2 (some 6)]:=rfl
theorem SH (hl:args.length≤17) (h:Run EH K [.code Km] (At args) E σ):AP Tryz.prog 173 args σ K:=
 AX (cx:=EH) (code:=Tryz.f173.body.getD .skip) HM (by kernel_rfl) Tryz.ntmps173 hl (AZ EH _ (Ax Km) _ [] (by kernel_rfl)) h
def OQ:C:=(.seq (.seq (.reg [Qm 11 0,
 Qm 12 1,
 Qo 13 (.call 65 [(.t 11),(.t 12)])] [0,1,2,7,13])
 (.cond (.t 13) .skip
 (.exit 0)))
 (.block 1 (.reg [Qm 14 7,
 Qm 15 2,
 Qo 16 (.EY (.t 15) []),
 Qo 17 (.bsl 1 1 [(.d (.str []))] [(0,1,(.t 16))]),
 Qo 18 (.app 9 1 16 (.t 14) (.t 17)),
 Qm 7 18] [0,1,2,7])))
def Jl:C:=(.seq (.reg [Qo 6 (.mv (.c .AY))] [0,1,2])
 (.seq (.reg [Qm 8 2,
 Qo 9 (.EY (.t 8) []),
 Qo 10 (.Mp 9 1 1 [(.d (.str []))] [(0,1,(.t 9))]),
 Qm 7 10] [0,1,2,7])
 (.seq (.block 0 (.loop OQ))
 (.seq (.reg [Qm 19 7,
 Qm 6 19] [6])
 .ret))))
noncomputable def Dd:Cx:=⟨Tryz.prog,182,Tryz.f182,20,[10],[],[.t 6]⟩
theorem Jw:Good Dd:=⟨Tryz.func182,by kernel_rfl⟩
theorem Q0:Dd.rs=[.t 6]:=rfl
theorem RF (hl:args.length≤20) (h:Run Dd K [.code Jl] (At args) E σ):AP Tryz.prog 182 args σ K:=
 AX (cx:=Dd) (code:=Tryz.f182.body.getD .skip) Jw (by kernel_rfl) Tryz.ntmps182 hl (AZ Dd _ (Ax Jl) _ [] (by kernel_rfl)) h
def G2:C:=(.seq (.reg [Qo 4 (.mv (.c .AY))] [0,1])
 (.seq (.reg [Qm 6 0,
 Qm 7 1,
 Qo 8 (.call 196 [(.t 6),(.c (.d (.str [44]))),(.t 7)]),
 Qm 5 8] [0,5])
 (.seq (.reg [Qm 9 0,
 Qo 10 (.call 127 [(.t 9),(.c (.d (.str [41])))])] [5])
 (.seq (.reg [Qm 11 5,
 Qm 4 11] [4])
 .ret))))
noncomputable def Bz:Cx:=⟨Tryz.prog,183,Tryz.f183,12,[],[],[.t 4]⟩
theorem G6:Good Bz:=⟨Tryz.func183,by kernel_rfl⟩
theorem LX:Bz.rs=[.t 4]:=rfl
theorem Ll (hl:args.length≤12) (h:Run Bz K [.code G2] (At args) E σ):AP Tryz.prog 183 args σ K:=
 AX (cx:=Bz) (code:=Tryz.f183.body.getD .skip) G6 (by kernel_rfl) Tryz.ntmps183 hl (AZ Bz _ (Ax G2) _ [] (by kernel_rfl)) h
def I5:C:=(.seq (.reg [Qo 4 (.al [(.d (.int .i64 0)),(.d (.str [])),.AY] false)] [0,1,4])
 (.seq (.reg [Qm 6 0,
 Qo 7 (.call 127 [(.t 6),(.c (.d (.str [40])))])] [0,1,4])
 (.seq (.reg [Qm 8 0,
 Qo 9 (.call 168 [(.t 8)]),
 Qo 5 (.al [(.d (.int .i64 0)),(.d (.str [])),.AY] false),
 ⟨none,.st (.t 5) (.t 9) 3,none⟩] [0,1,4,5])
 (.seq (.reg [Qm 10 0,
 Qo 11 (.call 127 [(.t 10),(.c (.d (.str [41])))])] [1,4,5])
 (.seq (.reg [Qm 12 1,
 Qo 13 (.ldl (.t 5) (some 3)),
 Qo 14 (.bsl 3 1 [(.d (.int .i64 0)),(.d (.str [])),.AY] [(0,3,(.t 13))]),
 Qo 15 (.bld [(.d (.int .i64 0)),(.d (.str [])),.AY] [(0,1,(.t 12)),(2,1,(.t 14))]),
 ⟨none,.st (.t 4) (.t 15) 3,none⟩] [4])
 .ret)))))
noncomputable def DD:Cx:=⟨Tryz.prog,184,Tryz.f184,16,[300013],[],[.c 4 (some 3)]⟩
theorem Ic:Good DD:=⟨Tryz.func184,by kernel_rfl⟩
theorem O6:DD.rs=[.c 4 (some 3)]:=rfl
theorem Oz (hl:args.length≤16) (h:Run DD K [.code I5] (At args) E σ):AP Tryz.prog 184 args σ K:=
 AX (cx:=DD) (code:=Tryz.f184.body.getD .skip) Ic (by kernel_rfl) Tryz.ntmps184 hl (AZ DD _ (Ax I5) _ [] (by kernel_rfl)) h
def G1:C:=(.seq (.reg [Qo 4 (.mv (.c .AY))] [0,1])
 (.seq (.seq (.reg [Qm 5 0,
 Qo 6 (.call 65 [(.t 5),(.c (.d (.str [41])))])] [0,1,6])
 (.cond (.t 6) (.seq (.reg [Qo 4 (.mv (.c .AY))] [4])
 .ret)
 .skip))
 (.seq (.reg [Qm 7 0,
 Qm 8 1,
 Qo 9 (.call 183 [(.t 7),(.t 8)]),
 Qm 4 9] [4])
 .ret)))
noncomputable def By:Cx:=⟨Tryz.prog,185,Tryz.f185,10,[],[],[.t 4]⟩
theorem E1:Good By:=⟨Tryz.func185,by kernel_rfl⟩
theorem LW:By.rs=[.t 4]:=rfl
theorem Lk (hl:args.length≤10) (h:Run By K [.code G1] (At args) E σ):AP Tryz.prog 185 args σ K:=
 AX (cx:=By) (code:=Tryz.f185.body.getD .skip) E1 (by kernel_rfl) Tryz.ntmps185 hl (AZ By _ (Ax G1) _ [] (by kernel_rfl)) h
def Pq:C:=(.seq (.seq (.reg [Qm 9 4,
 Qo 10 (.bin .neq (.t 9) (.c (.d (.int .i64 0))))] [0,2,3,4,10])
 (.cond (.t 10) .skip
 (.exit 0)))
 (.seq (.block 1 (.reg [Qm 13 4,
 Qo 14 (.ldl (.t 3) (some 6)),
 Qm 15 0,
 Qo 16 (.call 197 [(.t 15)]),
 Qo 17 (.call 188 [(.t 13),(.t 14),(.t 16)]),
 ⟨none,.st (.t 3) (.t 17) 6,none⟩] [0,2,3]))
 (.reg [Qm 11 0,
 Qo 12 (.call 187 [(.t 11),(.c (.d (.int .i64 2)))]),
 Qm 4 12] [0,2,3,4])))
def MK:C:=(.seq (.reg [Qo 2 (.al [(.d (.int .i64 0)),(.d (.str [])),(.d (.int .i64 0)),.AY,.AY,.AY] false)] [0,2])
 (.seq (.reg [Qm 5 0,
 Qo 6 (.call 197 [(.t 5)]),
 Qo 3 (.al [(.d (.int .i64 0)),(.d (.str [])),(.d (.int .i64 0)),.AY,.AY,.AY] false),
 ⟨none,.st (.t 3) (.t 6) 6,none⟩] [0,2,3])
 (.seq (.seq (.reg [Qm 7 0,
 Qo 8 (.call 187 [(.t 7),(.c (.d (.int .i64 2)))]),
 Qm 4 8] [0,2,3,4])
 (.block 0 (.loop Pq)))
 (.seq (.reg [Qo 18 (.ldl (.t 3) (some 6)),
 ⟨none,.st (.t 2) (.t 18) 6,none⟩] [2])
 .ret))))
noncomputable def Ef:Cx:=⟨Tryz.prog,186,Tryz.f186,19,[300014,300018],[],[.c 2 (some 6)]⟩
theorem MQ:Good Ef:=⟨Tryz.func186,by kernel_rfl⟩
theorem Sh:Ef.rs=[.c 2 (some 6)]:=rfl
theorem T4 (hl:args.length≤19) (h:Run Ef K [.code MK] (At args) E σ):AP Tryz.prog 186 args σ K:=
 AX (cx:=Ef) (code:=Tryz.f186.body.getD .skip) MQ (by kernel_rfl) Tryz.ntmps186 hl (AZ Ef _ (Ax MK) _ [] (by kernel_rfl)) h
def MZ:C:=(.seq (.seq (.reg [Qm 6 5,
 Qo 7 (.bin .leq (.t 6) (.c (.d (.int .i64 8))))] [0,1,5,7])
 (.cond (.t 7) .skip
 (.exit 0)))
 (.seq (.block 1 (.seq (.reg [Qm 10 5,
 Qo 11 (.call 138 [(.t 10)]),
 Qm 12 1,
 Qo 13 (.bin .eql (.t 11) (.t 12)),
 Qm 14 13,
 ⟨some 15,.mv (.t 0),some (14,true)⟩,
 ⟨some 16,.mv (.t 5),some (14,true)⟩,
 ⟨some 17,.call 91 [(.t 16)],some (14,true)⟩,
 ⟨some 18,.call 65 [(.t 15),(.t 17)],some (14,true)⟩,
 Qo 19 (.pick (.t 14) (.t 18) (.c (.d (.bool false))))] [0,1,5,19])
 (.cond (.t 19) (.seq (.reg [Qm 20 5,
 Qm 4 20] [4])
 .ret)
 .skip)))
 (.reg [Qm 8 5,
 Qo 9 (.bin .add (.t 8) (.c (.d (.int .i64 1)))),
 Qm 5 9] [0,1,5])))
def Hu:C:=(.seq (.reg [Qo 4 (.mv (.c (.d (.int .i64 0))))] [0,1])
 (.seq (.seq (.reg [Qo 5 (.mv (.c (.d (.int .i64 1))))] [0,1,5])
 (.block 0 (.loop MZ)))
 (.seq (.reg [Qo 4 (.mv (.c (.d (.int .i64 0))))] [4])
 .ret)))
noncomputable def Ct:Cx:=⟨Tryz.prog,187,Tryz.f187,21,[],[],[.t 4]⟩
theorem FX:Good Ct:=⟨Tryz.func187,by kernel_rfl⟩
theorem Nx:Ct.rs=[.t 4]:=rfl
theorem OY (hl:args.length≤21) (h:Run Ct K [.code Hu] (At args) E σ):AP Tryz.prog 187 args σ K:=
 AX (cx:=Ct) (code:=Tryz.f187.body.getD .skip) FX (by kernel_rfl) Tryz.ntmps187 hl (AZ Ct _ (Ax Hu) _ [] (by kernel_rfl)) h
def Qk:C:=(.seq (.reg [Qo 4 (.box (.t 1) false),
 Qo 5 (.box (.t 2) false),
 Qo 6 (.al [(.d (.int .i64 0)),(.d (.str [])),(.d (.int .i64 0)),.AY,.AY,.AY] false)] [0,4,5,6])
 (.seq (.reg [Qm 7 0,
 Qo 8 (.ldl (.t 4) (some 6)),
 Qo 9 (.ldl (.t 5) (some 6)),
 Qo 10 (.bsl 6 2 [(.d (.int .i64 0)),(.d (.str [])),(.d (.int .i64 0)),.AY,.AY,.AY,(.d (.int .i64 0)),(.d (.str [])),(.d (.int .i64 0)),.AY,.AY,.AY] [(0,6,(.t 8)),(6,6,(.t 9))]),
 Qo 11 (.bld [(.d (.int .i64 0)),(.d (.str [])),(.d (.int .i64 0)),.AY,.AY,.AY] [(0,1,(.c (.d (.int .i64 13)))),(2,1,(.t 7)),(4,1,(.t 10))]),
 ⟨none,.st (.t 6) (.t 11) 6,none⟩] [6])
 .ret))
noncomputable def Gb:Cx:=⟨Tryz.prog,188,Tryz.f188,12,[300008,300009],[],[.c 6 (some 6)]⟩
theorem Qq:Good Gb:=⟨Tryz.func188,by kernel_rfl⟩
theorem WW:Gb.rs=[.c 6 (some 6)]:=rfl
theorem XK (hl:args.length≤12) (h:Run Gb K [.code Qk] (At args) E σ):AP Tryz.prog 188 args σ K:=
 AX (cx:=Gb) (code:=Tryz.f188.body.getD .skip) Qq (by kernel_rfl) Tryz.ntmps188 hl (AZ Gb _ (Ax Qk) _ [] (by kernel_rfl)) h
def KH:C:=(.seq (.seq (.reg [Qm 11 0,
 Qm 12 1,
 Qo 13 (.call 65 [(.t 11),(.t 12)])] [0,1,2,7,13])
 (.cond (.t 13) .skip
 (.exit 0)))
 (.block 1 (.reg [Qm 14 7,
 Qm 15 2,
 Qo 16 (.EY (.t 15) []),
 Qo 17 (.bsl 3 1 [(.d (.int .i64 0)),(.d (.str [])),.AY] [(0,3,(.t 16))]),
 Qo 18 (.app 75 3 48 (.t 14) (.t 17)),
 Qm 7 18] [0,1,2,7])))
def Gn:C:=(.seq (.reg [Qo 6 (.mv (.c .AY))] [0,1,2])
 (.seq (.reg [Qm 8 2,
 Qo 9 (.EY (.t 8) []),
 Qo 10 (.Mp 75 3 1 [(.d (.int .i64 0)),(.d (.str [])),.AY] [(0,3,(.t 9))]),
 Qm 7 10] [0,1,2,7])
 (.seq (.block 0 (.loop KH))
 (.seq (.reg [Qm 19 7,
 Qm 6 19] [6])
 .ret))))
noncomputable def CM:Cx:=⟨Tryz.prog,196,Tryz.f196,20,[10],[],[.t 6]⟩
theorem Gt:Good CM:=⟨Tryz.func196,by kernel_rfl⟩
theorem Lv:CM.rs=[.t 6]:=rfl
theorem M6 (hl:args.length≤20) (h:Run CM K [.code Gn] (At args) E σ):AP Tryz.prog 196 args σ K:=
 AX (cx:=CM) (code:=Tryz.f196.body.getD .skip) Gt (by kernel_rfl) Tryz.ntmps196 hl (AZ CM _ (Ax Gn) _ [] (by kernel_rfl)) h
def On:C:=(.seq (.seq (.reg [Qm 9 4,
 Qo 10 (.bin .neq (.t 9) (.c (.d (.int .i64 0))))] [0,2,3,4,10])
 (.cond (.t 10) .skip
 (.exit 0)))
 (.seq (.block 1 (.reg [Qm 13 4,
 Qo 14 (.ldl (.t 3) (some 6)),
 Qm 15 0,
 Qo 16 (.call 204 [(.t 15)]),
 Qo 17 (.call 188 [(.t 13),(.t 14),(.t 16)]),
 ⟨none,.st (.t 3) (.t 17) 6,none⟩] [0,2,3]))
 (.reg [Qm 11 0,
 Qo 12 (.call 187 [(.t 11),(.c (.d (.int .i64 3)))]),
 Qm 4 12] [0,2,3,4])))
def Ku:C:=(.seq (.reg [Qo 2 (.al [(.d (.int .i64 0)),(.d (.str [])),(.d (.int .i64 0)),.AY,.AY,.AY] false)] [0,2])
 (.seq (.reg [Qm 5 0,
 Qo 6 (.call 204 [(.t 5)]),
 Qo 3 (.al [(.d (.int .i64 0)),(.d (.str [])),(.d (.int .i64 0)),.AY,.AY,.AY] false),
 ⟨none,.st (.t 3) (.t 6) 6,none⟩] [0,2,3])
 (.seq (.seq (.reg [Qm 7 0,
 Qo 8 (.call 187 [(.t 7),(.c (.d (.int .i64 3)))]),
 Qm 4 8] [0,2,3,4])
 (.block 0 (.loop On)))
 (.seq (.reg [Qo 18 (.ldl (.t 3) (some 6)),
 ⟨none,.st (.t 2) (.t 18) 6,none⟩] [2])
 .ret))))
noncomputable def EP:Cx:=⟨Tryz.prog,197,Tryz.f197,19,[300014,300018],[],[.c 2 (some 6)]⟩
theorem LK:Good EP:=⟨Tryz.func197,by kernel_rfl⟩
theorem R5:EP.rs=[.c 2 (some 6)]:=rfl
theorem SO (hl:args.length≤19) (h:Run EP K [.code Ku] (At args) E σ):AP Tryz.prog 197 args σ K:=
 AX (cx:=EP) (code:=Tryz.f197.body.getD .skip) LK (by kernel_rfl) Tryz.ntmps197 hl (AZ EP _ (Ax Ku) _ [] (by kernel_rfl)) h
def JG:C:=(.seq (.seq (.reg [Qm 6 0,
 Qo 7 (.call 65 [(.t 6),(.c (.d (.str [40])))])] [0,2,3,7])
 (.cond (.t 7) .skip
 (.exit 0)))
 (.block 1 (.FZ (.one (Qo 8 (.ldl (.t 3) (some 6)))
 (.one (Qm 10 0)
 (.one (Qm 11 0)
 (.one (Qo 12 (.mkf 131 [(.t 11)] []))
 (.alt (Qo 9 (.Mp 44 6 1 [(.d (.int .i64 0)),(.d (.str [])),(.d (.int .i64 0)),.AY,.AY,.AY] [(0,6,(.t 8))]))
 (.one (Qo 13 (.call 208 [(.t 10),(.t 12)]))
 (.one (Qo 14 (.app 44 6 104 (.t 9) (.t 13)))
 (.one (Qo 15 (.bld [(.d (.int .i64 0)),(.d (.str [])),(.d (.int .i64 0)),.AY,.AY,.AY] [(0,1,(.c (.d (.int .i64 12)))),(4,1,(.t 14))]))
 (.one ⟨none,.st (.t 3) (.t 15) 6,none⟩
 .done))))
 (.alt (Qo 13 (.call 208 [(.t 10),(.t 12)]))
 (.one (Qo 9 (.Mp 44 6 1 [(.d (.int .i64 0)),(.d (.str [])),(.d (.int .i64 0)),.AY,.AY,.AY] [(0,6,(.t 8))]))
 (.one (Qo 14 (.app 44 6 104 (.t 9) (.t 13)))
 (.one (Qo 15 (.bld [(.d (.int .i64 0)),(.d (.str [])),(.d (.int .i64 0)),.AY,.AY,.AY] [(0,1,(.c (.d (.int .i64 12)))),(4,1,(.t 14))]))
 (.one ⟨none,.st (.t 3) (.t 15) 6,none⟩
 .done))))
 .done)))))) [0,2,3])))
def TV:C:=(.seq (.reg [Qo 2 (.al [(.d (.int .i64 0)),(.d (.str [])),(.d (.int .i64 0)),.AY,.AY,.AY] false)] [0,2])
 (.seq (.reg [Qm 4 0,
 Qo 5 (.call 207 [(.t 4)]),
 Qo 3 (.al [(.d (.int .i64 0)),(.d (.str [])),(.d (.int .i64 0)),.AY,.AY,.AY] false),
 ⟨none,.st (.t 3) (.t 5) 6,none⟩] [0,2,3])
 (.seq (.block 0 (.loop JG))
 (.seq (.reg [Qo 16 (.ldl (.t 3) (some 6)),
 ⟨none,.st (.t 2) (.t 16) 6,none⟩] [2])
 .ret))))
def Tf:List (List Nat×PT):=[([0,2],.done),([0,2,3],.done),([0,2,3,7],.done),([0,2,3],(.one 0 (.one 2 (.one 3 (.one 4 (.alt 1 (.one 5 (.one 6 (.one 7 (.one 8 .done)))) (.alt 5 (.one 1 (.one 6 (.one 7 (.one 8 .done)))) .done))))))),([2],.done)]
noncomputable def D4:Cx:=⟨Tryz.prog,204,Tryz.f204,17,[9,300008,300016],[],[.c 2 (some 6)]⟩
theorem MN:Good D4:=⟨Tryz.func204,by kernel_rfl⟩
theorem Sd:D4.rs=[.c 2 (some 6)]:=rfl
theorem T0 (hl:args.length≤17) (h:Run D4 K [.code TV] (At args) E σ):AP Tryz.prog 204 args σ K:=
 AX (cx:=D4) (code:=Tryz.f204.body.getD .skip) MN (by kernel_rfl) Tryz.ntmps204 hl (AZ D4 _ Tf _ [] (by kernel_rfl)) h
def Om:C:=(.seq (.seq (.reg [Qm 68 5,
 Qo 69 (.bin .leq (.t 68) (.c (.d (.int .i64 7))))] [0,2,5,69])
 (.cond (.t 69) .skip
 (.exit 1)))
 (.seq (.block 2 (.seq (.reg [Qm 73 5,
 Qo 74 (.call 147 [(.t 73)]),
 Qm 72 74,
 Qo 75 (.ext (.t 72) 0),
 Qo 76 (.ext (.t 72) 1),
 Qm 6 75,
 Qm 7 76] [0,2,5,6,7])
 (.seq (.reg [Qm 77 0,
 Qm 78 6,
 Qo 79 (.call 65 [(.t 77),(.t 78)])] [0,2,5,7,79])
 (.cond (.t 79) (.seq (.reg [Qm 80 5,
 Qm 81 0,
 Qm 82 7,
 Qo 83 (.call 213 [(.t 81),(.t 82)]),
 Qo 84 (.bld [(.d (.int .i64 0)),(.d (.str [])),(.d (.int .i64 0)),.AY,.AY,.AY] [(0,1,(.c (.d (.int .i64 14)))),(2,1,(.t 80)),(4,1,(.t 83))]),
 ⟨none,.st (.t 2) (.t 84) 6,none⟩] [2])
 .ret)
 .skip))))
 (.reg [Qm 70 5,
 Qo 71 (.bin .add (.t 70) (.c (.d (.int .i64 1)))),
 Qm 5 71] [0,2,5])))
def Kt:C:=(.seq (.reg [Qo 2 (.al [(.d (.int .i64 0)),(.d (.str [])),(.d (.int .i64 0)),.AY,.AY,.AY] false)] [0,2])
 (.seq (.seq (.reg [Qm 8 0,
 Qo 9 (.call 64 [(.t 8)]),
 Qo 3 (.al [(.d (.int .i64 0)),(.d (.str [])),(.d (.int .i64 0))] false),
 ⟨none,.st (.t 3) (.t 9) 3,none⟩] [0,2,3])
 (.block 0 (.seq (.reg [Qo 11 (.fld (.t 3) 0),
 Qo 12 (.ldl (.t 11) none),
 Qo 13 (.bin .eql (.t 12) (.c (.d (.int .i64 3)))),
 Qm 10 13] [0,2,3,10])
 (.cond (.t 10) (.seq (.reg [Qm 14 0,
 Qo 15 (.call 209 [(.t 14)]),
 Qo 16 (.bld [(.d (.int .i64 0)),(.d (.str [])),(.d (.int .i64 0)),.AY,.AY,.AY] [(0,1,(.c (.d (.int .i64 3)))),(2,1,(.t 15))]),
 ⟨none,.st (.t 2) (.t 16) 6,none⟩] [2])
 .ret)
 (.seq (.reg [Qo 18 (.fld (.t 3) 0),
 Qo 19 (.ldl (.t 18) none),
 Qo 20 (.bin .eql (.t 19) (.c (.d (.int .i64 1)))),
 Qm 17 20] [0,2,3,17])
 (.cond (.t 17) (.seq (.reg [Qm 21 0,
 Qo 22 (.call 126 [(.t 21)]),
 Qo 23 (.bld [(.d (.int .i64 0)),(.d (.str [])),(.d (.int .i64 0)),.AY,.AY,.AY] [(0,1,(.c (.d (.int .i64 4)))),(1,1,(.t 22))]),
 ⟨none,.st (.t 2) (.t 23) 6,none⟩] [2])
 .ret)
 (.seq (.reg [Qo 25 (.fld (.t 3) 0),
 Qo 26 (.ldl (.t 25) none),
 Qo 27 (.bin .eql (.t 26) (.c (.d (.int .i64 2)))),
 Qm 24 27] [0,2,24])
 (.cond (.t 24) (.seq (.reg [Qm 28 0,
 Qo 29 (.call 124 [(.t 28),(.c (.d (.int .i64 2)))]),
 Qo 30 (.bld [(.d (.int .i64 0)),(.d (.str [])),(.d (.int .i64 0)),.AY,.AY,.AY] [(0,1,(.c (.d (.int .i64 6)))),(1,1,(.t 29))]),
 Qo 4 (.al [(.d (.int .i64 0)),(.d (.str [])),(.d (.int .i64 0)),.AY,.AY,.AY] false),
 ⟨none,.st (.t 4) (.t 30) 6,none⟩] [0,2,4])
 (.seq (.reg [Qm 31 0,
 Qm 32 0,
 Qo 33 (.mkf 131 [(.t 32)] []),
 Qo 34 (.call 210 [(.t 31),(.t 33)]),
 Qo 35 (.fld (.t 4) 4),
 ⟨none,.st (.t 35) (.t 34) 1,none⟩] [2,4])
 (.seq (.reg [Qo 36 (.ldl (.t 4) (some 6)),
 ⟨none,.st (.t 2) (.t 36) 6,none⟩] [2])
 .ret)))
 (.seq (.reg [Qm 38 0,
 Qo 39 (.call 65 [(.t 38),(.c (.d (.str [45])))]),
 Qm 37 39] [0,2,37])
 (.cond (.t 37) (.seq (.reg [Qm 40 0,
 Qo 41 (.call 209 [(.t 40)]),
 Qo 42 (.un .neg (.t 41)),
 Qo 43 (.bld [(.d (.int .i64 0)),(.d (.str [])),(.d (.int .i64 0)),.AY,.AY,.AY] [(0,1,(.c (.d (.int .i64 3)))),(2,1,(.t 42))]),
 ⟨none,.st (.t 2) (.t 43) 6,none⟩] [2])
 .ret)
 (.seq (.reg [Qm 45 0,
 Qo 46 (.call 65 [(.t 45),(.c (.d (.str [116,114,117,101])))]),
 Qm 44 46] [0,2,44])
 (.cond (.t 44) (.seq (.reg [Qo 47 (.bld [(.d (.int .i64 0)),(.d (.str [])),(.d (.int .i64 0)),.AY,.AY,.AY] [(0,1,(.c (.d (.int .i64 2)))),(2,1,(.c (.d (.int .i64 1))))]),
 ⟨none,.st (.t 2) (.t 47) 6,none⟩] [2])
 .ret)
 (.seq (.reg [Qm 49 0,
 Qo 50 (.call 65 [(.t 49),(.c (.d (.str [102,97,108,115,101])))]),
 Qm 48 50] [0,2,48])
 (.cond (.t 48) (.seq (.reg [Qo 51 (.bld [(.d (.int .i64 0)),(.d (.str [])),(.d (.int .i64 0)),.AY,.AY,.AY] [(0,1,(.c (.d (.int .i64 2))))]),
 ⟨none,.st (.t 2) (.t 51) 6,none⟩] [2])
 .ret)
 (.seq (.reg [Qm 53 0,
 Qo 54 (.call 65 [(.t 53),(.c (.d (.str [40])))]),
 Qm 52 54] [0,2,52])
 (.cond (.t 52) (.seq (.reg [Qm 55 0,
 Qo 56 (.call 211 [(.t 55)]),
 ⟨none,.st (.t 2) (.t 56) 6,none⟩] [2])
 .ret)
 (.seq (.reg [Qm 58 0,
 Qo 59 (.call 65 [(.t 58),(.c (.d (.str [116,105,99,107])))]),
 Qm 57 59] [0,2,57])
 (.cond (.t 57) (.seq (.reg [Qm 60 0,
 Qo 61 (.call 212 [(.t 60)]),
 ⟨none,.st (.t 2) (.t 61) 6,none⟩] [2])
 .ret)
 (.seq (.reg [Qm 63 0,
 Qo 64 (.call 65 [(.t 63),(.c (.d (.str [114,97,105,115,101])))]),
 Qm 62 64] [0,2,62])
 (.cond (.t 62) (.seq (.reg [Qm 65 0,
 Qo 66 (.call 213 [(.t 65),(.c (.d (.int .i64 1)))]),
 Qo 67 (.bld [(.d (.int .i64 0)),(.d (.str [])),(.d (.int .i64 0)),.AY,.AY,.AY] [(0,1,(.c (.d (.int .i64 16)))),(4,1,(.t 66))]),
 ⟨none,.st (.t 2) (.t 67) 6,none⟩] [2])
 .ret)
 .skip))))))))))))))))))))
 (.seq (.seq (.reg [Qo 5 (.mv (.c (.d (.int .i64 1))))] [0,2,5])
 (.block 1 (.loop Om)))
 (.seq (.reg [Qm 85 0,
 Qo 86 (.call 68 [(.t 85)])] [2])
 (.seq (.reg [Qo 87 (.bld [(.d (.int .i64 0)),(.d (.str [])),(.d (.int .i64 0)),.AY,.AY,.AY] []),
 ⟨none,.st (.t 2) (.t 87) 6,none⟩] [2])
 .ret)))))
noncomputable def EO:Cx:=⟨Tryz.prog,207,Tryz.f207,88,[300012,300019,300026,300036],[],[.c 2 (some 6)]⟩
theorem BO:Good EO:=⟨Tryz.func207,by kernel_rfl⟩
theorem R4:EO.rs=[.c 2 (some 6)]:=rfl
theorem SN (hl:args.length≤88) (h:Run EO K [.code Kt] (At args) E σ):AP Tryz.prog 207 args σ K:=
 AX (cx:=EO) (code:=Tryz.f207.body.getD .skip) BO (by kernel_rfl) Tryz.ntmps207 hl (AZ EO _ (Ax Kt) _ [] (by kernel_rfl)) h
def Hq:C:=(.seq (.reg [Qo 4 (.mv (.c .AY))] [0,1])
 (.seq (.seq (.reg [Qm 5 0,
 Qo 6 (.call 65 [(.t 5),(.c (.d (.str [41])))])] [0,1,6])
 (.cond (.t 6) (.seq (.reg [Qo 4 (.mv (.c .AY))] [4])
 .ret)
 .skip))
 (.seq (.reg [Qm 7 0,
 Qm 8 1,
 Qo 9 (.call 214 [(.t 7),(.t 8)]),
 Qm 4 9] [4])
 .ret)))
noncomputable def Cp:Cx:=⟨Tryz.prog,208,Tryz.f208,10,[],[],[.t 4]⟩
theorem FU:Good Cp:=⟨Tryz.func208,by kernel_rfl⟩
theorem Nt:Cp.rs=[.t 4]:=rfl
theorem OU (hl:args.length≤10) (h:Run Cp K [.code Hq] (At args) E σ):AP Tryz.prog 208 args σ K:=
 AX (cx:=Cp) (code:=Tryz.f208.body.getD .skip) FU (by kernel_rfl) Tryz.ntmps208 hl (AZ Cp _ (Ax Hq) _ [] (by kernel_rfl)) h
def JI:C:=(.seq (.reg [Qo 2 (.mv (.c (.d (.int .i64 0))))] [0])
 (.seq (.reg [Qm 6 0,
 Qo 7 (.call 124 [(.t 6),(.c (.d (.int .i64 3)))]),
 Qo 8 (.call 215 [(.t 7),(.c (.d (.int .i64 10))),(.c (.d (.int .i64 64)))]),
 Qm 5 8,
 Qo 9 (.ext (.t 5) 0),
 Qo 10 (.ext (.t 5) 1),
 Qm 3 9,
 Qm 4 10] [3])
 (.seq (.reg [Qm 11 3,
 Qm 2 11] [2])
 .ret)))
noncomputable def D1:Cx:=⟨Tryz.prog,209,Tryz.f209,12,[],[],[.t 2]⟩
theorem JR:Good D1:=⟨Tryz.func209,by kernel_rfl⟩
theorem P0:D1.rs=[.t 2]:=rfl
theorem QK (hl:args.length≤12) (h:Run D1 K [.code JI] (At args) E σ):AP Tryz.prog 209 args σ K:=
 AX (cx:=D1) (code:=Tryz.f209.body.getD .skip) JR (by kernel_rfl) Tryz.ntmps209 hl (AZ D1 _ (Ax JI) _ [] (by kernel_rfl)) h
def Hs:C:=(.seq (.reg [Qo 4 (.mv (.c .AY))] [0,1])
 (.seq (.seq (.reg [Qm 5 0,
 Qo 6 (.call 65 [(.t 5),(.c (.d (.str [40])))]),
 Qo 7 (.un .not (.t 6))] [0,1,7])
 (.cond (.t 7) (.seq (.reg [Qo 4 (.mv (.c .AY))] [4])
 .ret)
 .skip))
 (.seq (.reg [Qm 8 0,
 Qm 9 1,
 Qo 10 (.call 214 [(.t 8),(.t 9)]),
 Qm 4 10] [4])
 .ret)))
noncomputable def Cr:Cx:=⟨Tryz.prog,210,Tryz.f210,11,[],[],[.t 4]⟩
theorem FV:Good Cr:=⟨Tryz.func210,by kernel_rfl⟩
theorem Nv:Cr.rs=[.t 4]:=rfl
theorem OW (hl:args.length≤11) (h:Run Cr K [.code Hs] (At args) E σ):AP Tryz.prog 210 args σ K:=
 AX (cx:=Cr) (code:=Tryz.f210.body.getD .skip) FV (by kernel_rfl) Tryz.ntmps210 hl (AZ Cr _ (Ax Hs) _ [] (by kernel_rfl)) h
def M0:C:=(.seq (.reg [Qo 2 (.al [(.d (.int .i64 0)),(.d (.str [])),(.d (.int .i64 0)),.AY,.AY,.AY] false)] [0,2])
 (.seq (.seq (.reg [Qm 4 0,
 Qo 5 (.call 65 [(.t 4),(.c (.d (.str [41])))])] [0,2,5])
 (.cond (.t 5) (.seq (.reg [Qo 6 (.bld [(.d (.int .i64 0)),(.d (.str [])),(.d (.int .i64 0)),.AY,.AY,.AY] [(0,1,(.c (.d (.int .i64 1))))]),
 ⟨none,.st (.t 2) (.t 6) 6,none⟩] [2])
 .ret)
 .skip))
 (.seq (.reg [Qm 7 0,
 Qo 8 (.call 131 [(.t 7)]),
 Qo 3 (.al [(.d (.int .i64 0)),(.d (.str [])),(.d (.int .i64 0)),.AY,.AY,.AY] false),
 ⟨none,.st (.t 3) (.t 8) 6,none⟩] [0,2,3])
 (.seq (.seq (.reg [Qm 9 0,
 Qo 10 (.call 65 [(.t 9),(.c (.d (.str [41])))])] [0,2,3,10])
 (.cond (.t 10) (.seq (.reg [Qo 11 (.ldl (.t 3) (some 6)),
 ⟨none,.st (.t 2) (.t 11) 6,none⟩] [2])
 .ret)
 .skip))
 (.seq (.reg [Qm 12 0,
 Qo 13 (.call 127 [(.t 12),(.c (.d (.str [44])))])] [0,2,3])
 (.seq (.FZ (.one (Qo 14 (.ldl (.t 3) (some 6)))
 (.one (Qm 16 0)
 (.one (Qm 17 0)
 (.one (Qo 18 (.mkf 131 [(.t 17)] []))
 (.alt (Qo 15 (.Mp 44 6 1 [(.d (.int .i64 0)),(.d (.str [])),(.d (.int .i64 0)),.AY,.AY,.AY] [(0,6,(.t 14))]))
 (.one (Qo 19 (.call 214 [(.t 16),(.t 18)]))
 (.one (Qo 20 (.app 44 6 104 (.t 15) (.t 19)))
 (.one (Qo 21 (.bld [(.d (.int .i64 0)),(.d (.str [])),(.d (.int .i64 0)),.AY,.AY,.AY] [(0,1,(.c (.d (.int .i64 5)))),(4,1,(.t 20))]))
 (.one ⟨none,.st (.t 2) (.t 21) 6,none⟩
 .done))))
 (.alt (Qo 19 (.call 214 [(.t 16),(.t 18)]))
 (.one (Qo 15 (.Mp 44 6 1 [(.d (.int .i64 0)),(.d (.str [])),(.d (.int .i64 0)),.AY,.AY,.AY] [(0,6,(.t 14))]))
 (.one (Qo 20 (.app 44 6 104 (.t 15) (.t 19)))
 (.one (Qo 21 (.bld [(.d (.int .i64 0)),(.d (.str [])),(.d (.int .i64 0)),.AY,.AY,.AY] [(0,1,(.c (.d (.int .i64 5)))),(4,1,(.t 20))]))
 (.one ⟨none,.st (.t 2) (.t 21) 6,none⟩
 .done))))
 .done)))))) [2])
 .ret))))))
def Mi:List (List Nat×PT):=[([0,2],.done),([0,2,5],.done),([2],.done),([0,2,3],.done),([0,2,3,10],.done),([2],.done),([0,2,3],.done),([2],(.one 0 (.one 2 (.one 3 (.one 4 (.alt 1 (.one 5 (.one 6 (.one 7 (.one 8 .done)))) (.alt 5 (.one 1 (.one 6 (.one 7 (.one 8 .done)))) .done)))))))]
noncomputable def CN:Cx:=⟨Tryz.prog,211,Tryz.f211,22,[15,300011,300014],[],[.c 2 (some 6)]⟩
theorem CK:Good CN:=⟨Tryz.func211,by kernel_rfl⟩
theorem Lw:CN.rs=[.c 2 (some 6)]:=rfl
theorem M7 (hl:args.length≤22) (h:Run CN K [.code M0] (At args) E σ):AP Tryz.prog 211 args σ K:=
 AX (cx:=CN) (code:=Tryz.f211.body.getD .skip) CK (by kernel_rfl) Tryz.ntmps211 hl (AZ CN _ Mi _ [] (by kernel_rfl)) h
def Kw:C:=(.seq (.reg [Qo 2 (.al [(.d (.int .i64 0)),(.d (.str [])),(.d (.int .i64 0)),.AY,.AY,.AY] false)] [0,2])
 (.seq (.reg [Qm 4 0,
 Qo 5 (.call 127 [(.t 4),(.c (.d (.str [40])))])] [0,2])
 (.seq (.reg [Qo 6 (.bld [(.d (.int .i64 0)),(.d (.str [])),(.d (.int .i64 0)),.AY,.AY,.AY] [(0,1,(.c (.d (.int .i64 15))))]),
 Qo 3 (.al [(.d (.int .i64 0)),(.d (.str [])),(.d (.int .i64 0)),.AY,.AY,.AY] false),
 ⟨none,.st (.t 3) (.t 6) 6,none⟩] [0,2,3])
 (.seq (.seq (.reg [Qm 7 0,
 Qo 8 (.call 65 [(.t 7),(.c (.d (.str [45])))])] [0,2,3,8])
 (.cond (.t 8) (.reg [Qm 9 0,
 Qo 10 (.call 209 [(.t 9)]),
 Qo 11 (.un .neg (.t 10)),
 Qo 12 (.fld (.t 3) 2),
 ⟨none,.st (.t 12) (.t 11) 1,none⟩] [0,2,3])
 (.reg [Qm 13 0,
 Qo 14 (.call 209 [(.t 13)]),
 Qo 15 (.fld (.t 3) 2),
 ⟨none,.st (.t 15) (.t 14) 1,none⟩] [0,2,3])))
 (.seq (.reg [Qm 16 0,
 Qo 17 (.call 127 [(.t 16),(.c (.d (.str [41])))])] [2,3])
 (.seq (.reg [Qo 18 (.ldl (.t 3) (some 6)),
 ⟨none,.st (.t 2) (.t 18) 6,none⟩] [2])
 .ret))))))
noncomputable def ES:Cx:=⟨Tryz.prog,212,Tryz.f212,19,[300018],[],[.c 2 (some 6)]⟩
theorem HP:Good ES:=⟨Tryz.func212,by kernel_rfl⟩
theorem R7:ES.rs=[.c 2 (some 6)]:=rfl
theorem SQ (hl:args.length≤19) (h:Run ES K [.code Kw] (At args) E σ):AP Tryz.prog 212 args σ K:=
 AX (cx:=ES) (code:=Tryz.f212.body.getD .skip) HP (by kernel_rfl) Tryz.ntmps212 hl (AZ ES _ (Ax Kw) _ [] (by kernel_rfl)) h
def Le:C:=(.seq (.reg [Qo 14 (.bin .lss (.t 13) (.t 12))] [0,5,12,13,14])
 (.seq (.cond (.t 14) .skip
 (.exit 0))
 (.seq (.block 1 (.seq (.reg [Qm 15 0,
 Qo 16 (.call 127 [(.t 15),(.c (.d (.str [44])))])] [0,5,12,13])
 (.reg [Qm 17 5,
 Qm 18 0,
 Qo 19 (.call 131 [(.t 18)]),
 Qo 20 (.bsl 6 1 [(.d (.int .i64 0)),(.d (.str [])),(.d (.int .i64 0)),.AY,.AY,.AY] [(0,6,(.t 19))]),
 Qo 21 (.app 44 6 104 (.t 17) (.t 20)),
 Qm 5 21] [0,5,12,13])))
 (.reg [Qo 22 (.bin .add (.t 13) (.c (.d (.int .i64 1)))),
 Qm 13 22] [0,5,12,13]))))
def H9:C:=(.seq (.reg [Qo 4 (.mv (.c .AY))] [0,1])
 (.seq (.reg [Qm 6 0,
 Qo 7 (.call 127 [(.t 6),(.c (.d (.str [40])))])] [0,1])
 (.seq (.reg [Qm 8 0,
 Qo 9 (.call 131 [(.t 8)]),
 Qo 10 (.Mp 44 6 1 [(.d (.int .i64 0)),(.d (.str [])),(.d (.int .i64 0)),.AY,.AY,.AY] [(0,6,(.t 9))]),
 Qm 5 10] [0,1,5])
 (.seq (.seq (.reg [Qm 11 1,
 Qo 12 (.bin .sub (.t 11) (.c (.d (.int .i64 1)))),
 Qo 13 (.mv (.c (.d (.int .i64 0))))] [0,5,12,13])
 (.block 0 (.loop Le)))
 (.seq (.reg [Qm 23 0,
 Qo 24 (.call 127 [(.t 23),(.c (.d (.str [41])))])] [5])
 (.seq (.reg [Qm 25 5,
 Qm 4 25] [4])
 .ret))))))
noncomputable def Cd:Cx:=⟨Tryz.prog,213,Tryz.f213,26,[10],[],[.t 4]⟩
theorem Hc:Good Cd:=⟨Tryz.func213,by kernel_rfl⟩
theorem NY:Cd.rs=[.t 4]:=rfl
theorem Np (hl:args.length≤26) (h:Run Cd K [.code H9] (At args) E σ):AP Tryz.prog 213 args σ K:=
 AX (cx:=Cd) (code:=Tryz.f213.body.getD .skip) Hc (by kernel_rfl) Tryz.ntmps213 hl (AZ Cd _ (Ax H9) _ [] (by kernel_rfl)) h
def Hr:C:=(.seq (.reg [Qo 4 (.mv (.c .AY))] [0,1])
 (.seq (.reg [Qm 6 0,
 Qm 7 1,
 Qo 8 (.call 216 [(.t 6),(.c (.d (.str [44]))),(.t 7)]),
 Qm 5 8] [0,5])
 (.seq (.reg [Qm 9 0,
 Qo 10 (.call 127 [(.t 9),(.c (.d (.str [41])))])] [5])
 (.seq (.reg [Qm 11 5,
 Qm 4 11] [4])
 .ret))))
noncomputable def Cq:Cx:=⟨Tryz.prog,214,Tryz.f214,12,[],[],[.t 4]⟩
theorem Hz:Good Cq:=⟨Tryz.func214,by kernel_rfl⟩
theorem Nu:Cq.rs=[.t 4]:=rfl
theorem OV (hl:args.length≤12) (h:Run Cq K [.code Hr] (At args) E σ):AP Tryz.prog 214 args σ K:=
 AX (cx:=Cq) (code:=Tryz.f214.body.getD .skip) Hz (by kernel_rfl) Tryz.ntmps214 hl (AZ Cq _ (Ax Hr) _ [] (by kernel_rfl)) h
def Mq:C:=(.seq (.seq (.reg [Qm 11 0,
 Qm 12 1,
 Qo 13 (.call 65 [(.t 11),(.t 12)])] [0,1,2,7,13])
 (.cond (.t 13) .skip
 (.exit 0)))
 (.block 1 (.reg [Qm 14 7,
 Qm 15 2,
 Qo 16 (.EY (.t 15) []),
 Qo 17 (.bsl 6 1 [(.d (.int .i64 0)),(.d (.str [])),(.d (.int .i64 0)),.AY,.AY,.AY] [(0,6,(.t 16))]),
 Qo 18 (.app 44 6 104 (.t 14) (.t 17)),
 Qm 7 18] [0,1,2,7])))
def I4:C:=(.seq (.reg [Qo 6 (.mv (.c .AY))] [0,1,2])
 (.seq (.reg [Qm 8 2,
 Qo 9 (.EY (.t 8) []),
 Qo 10 (.Mp 44 6 1 [(.d (.int .i64 0)),(.d (.str [])),(.d (.int .i64 0)),.AY,.AY,.AY] [(0,6,(.t 9))]),
 Qm 7 10] [0,1,2,7])
 (.seq (.block 0 (.loop Mq))
 (.seq (.reg [Qm 19 7,
 Qm 6 19] [6])
 .ret))))
noncomputable def DC:Cx:=⟨Tryz.prog,216,Tryz.f216,20,[10],[],[.t 6]⟩
theorem Ib:Good DC:=⟨Tryz.func216,by kernel_rfl⟩
theorem O5:DC.rs=[.t 6]:=rfl
theorem Oy (hl:args.length≤20) (h:Run DC K [.code I4] (At args) E σ):AP Tryz.prog 216 args σ K:=
 AX (cx:=DC) (code:=Tryz.f216.body.getD .skip) Ib (by kernel_rfl) Tryz.ntmps216 hl (AZ DC _ (Ax I4) _ [] (by kernel_rfl)) h
attribute [go_sem] XX O7 R3 PY RZ Sf R1 Q1 R6 PX R2 PZ Mf Se PR R0 PW PU LY Si Sg PS Sc RX RY Q0 LX O6 LW Sh Nx WW Lv R5 Sd R4 Nt P0 Nv Lw R7 NY Nu O5
end Go.Ab
