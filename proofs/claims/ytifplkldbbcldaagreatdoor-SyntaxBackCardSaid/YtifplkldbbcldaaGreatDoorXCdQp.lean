/- The compact codes of the functions of this seat, computed out of the translation. Conditions: none. -/
import Derived.Test.YtifplkldbbcldaaGreatDoorProg
import Derived.KernelRfl
import Derived.Test.YtifplkldbbcldaaGreatDoorXQm
set_option linter.unusedSimpArgs false
set_option linter.unusedVariables false
set_option maxRecDepth 4000
set_option maxHeartbeats 8000000
namespace Go.Ab
open Go.Proofs
variable {args:List AV} {σ:AM} {K:AV→AM→Prop}
def Xl:C:=(.seq (.reg [Qo 2 (.al [.AX,.AX] false),
 Qo 3 (.mv (.c (.d (.int .i64 0)))),
 Qo 4 (.mv (.c (.d (.int .i64 0))))] [0,2])
 (.seq (.reg [Qm 11 0,
 Qo 12 (.call 21 [(.t 11)]),
 Qm 10 12,
 Qo 13 (.ext (.t 10) 0),
 Qo 14 (.ext (.t 10) 1),
 Qo 15 (.ext (.t 10) 2),
 Qm 5 13,
 Qm 6 14,
 Qm 7 15] [2,5,6,7])
 (.seq (.seq (.reg [Qm 16 7,
 Qo 17 (.bin .neq (.t 16) (.c (.d (.int .i64 0))))] [2,5,6,7,17])
 (.cond (.t 17) (.seq (.reg [Qo 18 (.bld [.AX,.AX] []),
 Qm 19 6,
 Qm 20 7,
 ⟨none,.st (.t 2) (.t 18) 2,none⟩,
 Qm 3 19,
 Qm 4 20] [2,3,4])
 .ret)
 .skip))
 (.seq (.reg [Qm 21 5,
 Qo 22 (.bld [.AX,(.d (.int .i64 0)),(.d (.bool false)),(.d (.int .i64 0))] [(0,1,(.t 21))]),
 Qo 23 (.box (.t 22) true),
 Qm 8 23] [2,8])
 (.seq (.reg [Qm 24 8,
 Qo 25 (.call 28 [(.t 24)]),
 Qo 9 (.al [.AX,.AX] false),
 ⟨none,.st (.t 9) (.t 25) 2,none⟩] [2,8,9])
 (.seq (.seq (.reg [Qm 26 8,
 Qo 27 (.nck (.t 26)),
 Qo 28 (.fld (.t 27) 2),
 Qo 29 (.ld (.t 28) none)] [2,8,9,29])
 (.cond (.t 29) (.seq (.SO (.one (Qo 30 (.bld [.AX,.AX] []))
 (.one (Qm 31 8)
 (.one (Qo 32 (.nck (.t 31)))
 (.one (Qo 33 (.fld (.t 32) 3))
 (.alt (Qo 34 (.ld (.t 33) none))
 (.one ⟨none,.st (.t 2) (.t 30) 2,none⟩
 (.one (Qm 3 34)
 (.one (Qo 4 (.mv (.c (.d (.int .i64 2)))))
 .done)))
 (.alt ⟨none,.st (.t 2) (.t 30) 2,none⟩
 (.one (Qo 34 (.ld (.t 33) none))
 (.one (Qm 3 34)
 (.one (Qo 4 (.mv (.c (.d (.int .i64 2)))))
 .done)))
 .done)))))) [2,3,4])
 .ret)
 .skip))
 (.seq (.seq (.reg [Qo 35 (.ldl (.t 9) (some 2)),
 Qo 36 (.call 19 [(.t 35)]),
 Qo 37 (.un .not (.t 36))] [2,9,37])
 (.cond (.t 37) (.seq (.reg [Qo 38 (.bld [.AX,.AX] []),
 ⟨none,.st (.t 2) (.t 38) 2,none⟩,
 Qo 3 (.mv (.c (.d (.int .i64 0)))),
 Qo 4 (.mv (.c (.d (.int .i64 9))))] [2,3,4])
 .ret)
 .skip))
 (.seq (.reg [Qo 39 (.ldl (.t 9) (some 2)),
 ⟨none,.st (.t 2) (.t 39) 2,none⟩,
 Qo 3 (.mv (.c (.d (.int .i64 0)))),
 Qo 4 (.mv (.c (.d (.int .i64 0))))] [2,3,4])
 .ret))))))))
def ZD:List (List Nat×PT):=[([0,2],.done),([2,5,6,7],.done),([2,5,6,7,17],.done),([2,3,4],.done),([2,8],.done),([2,8,9],.done),([2,8,9,29],.done),([2,3,4],(.one 0 (.one 1 (.one 2 (.one 3 (.alt 4 (.one 5 (.one 6 (.one 7 .done))) (.alt 5 (.one 4 (.one 6 (.one 7 .done))) .done))))))),([2,9,37],.done),([2,3,4],.done),([2,3,4],.done)]
noncomputable def HR:Cx:=⟨Tryz.prog,12,Tryz.f12,40,[23,300035,300039],[],[.c 2 (some 2),.t 3,.t 4]⟩
theorem Gz:Good HR:=⟨Tryz.func12,by kernel_rfl⟩
theorem Wp:HR.rs=[.c 2 (some 2),.t 3,.t 4]:=rfl
theorem YB (hl:args.length≤40) (h:Run HR K [.code Xl] (An args) E σ):AR Tryz.prog 12 args σ K:=
 AW (cx:=HR) (code:=Tryz.f12.body.getD .skip) Gz (by kernel_rfl) Tryz.ntmps12 hl (AY HR _ ZD _ [] (by kernel_rfl)) h
def Mh:C:=(.seq (.seq (.reg [Qm 4 0,
 Qo 5 (.call 64 [(.t 4)]),
 Qo 6 (.fd (.t 5) 0 none),
 Qo 7 (.bin .neq (.t 6) (.c (.d (.int .i64 6))))] [0,2,3,7])
 (.cond (.t 7) .skip
 (.exit 0)))
 (.block 1 (.block 2 (.seq (.reg [Qm 11 0,
 Qo 12 (.call 65 [(.t 11),(.c (.d (.str [100,97,116,97])))]),
 Qm 10 12] [0,2,3,10])
 (.cond (.t 10) (.reg [Qo 13 (.fld (.t 3) 0),
 Qo 14 (.ldl (.t 13) none),
 Qm 15 0,
 Qo 16 (.call 66 [(.t 15)]),
 Qo 17 (.bsl 3 1 [(.d (.str [])),.AX,.AX] [(0,3,(.t 16))]),
 Qo 18 (.app 61 3 64 (.t 14) (.t 17)),
 Qo 19 (.fld (.t 3) 0),
 ⟨none,.st (.t 19) (.t 18) 1,none⟩] [0,2,3])
 (.seq (.reg [Qm 21 0,
 Qo 22 (.call 65 [(.t 21),(.c (.d (.str [102,117,110])))]),
 Qm 20 22] [0,2,3,20])
 (.cond (.t 20) (.reg [Qo 23 (.fld (.t 3) 1),
 Qo 24 (.ldl (.t 23) none),
 Qm 25 0,
 Qo 26 (.call 67 [(.t 25)]),
 Qo 27 (.bsl 8 1 [(.d (.str [])),.AX,(.d (.int .i64 0)),(.d (.str [])),(.d (.int .i64 0)),.AX,.AX,.AX] [(0,8,(.t 26))]),
 Qo 28 (.app 66 8 144 (.t 24) (.t 27)),
 Qo 29 (.fld (.t 3) 1),
 ⟨none,.st (.t 29) (.t 28) 1,none⟩] [0,2,3])
 (.reg [Qm 8 0,
 Qo 9 (.call 68 [(.t 8)])] [0,2,3]))))))))
def IY:C:=(.seq (.reg [Qo 2 (.al [.AX,.AX] false)] [0,2])
 (.seq (.reg [Qo 3 (.al [.AX,.AX] false)] [0,2,3])
 (.seq (.block 0 (.loop Mh))
 (.seq (.reg [Qo 30 (.ldl (.t 3) (some 2)),
 ⟨none,.st (.t 2) (.t 30) 2,none⟩] [2])
 .ret))))
noncomputable def Bi:Cx:=⟨Tryz.prog,28,Tryz.f28,31,[300014,300024,300030],[],[.c 2 (some 2)]⟩
theorem I5:Good Bi:=⟨Tryz.func28,by kernel_rfl⟩
theorem OR:Bi.rs=[.c 2 (some 2)]:=rfl
theorem Og (hl:args.length≤31) (h:Run Bi K [.code IY] (An args) E σ):AR Tryz.prog 28 args σ K:=
 AW (cx:=Bi) (code:=Tryz.f28.body.getD .skip) I5 (by kernel_rfl) Tryz.ntmps28 hl (AY Bi _ (As IY) _ [] (by kernel_rfl)) h
def Ki:C:=(.seq (.reg [Qo 2 (.al [(.d (.int .i64 0)),(.d (.str [])),(.d (.int .i64 0))] false)] [0,2])
 (.seq (.reg [Qm 3 0,
 Qo 4 (.nck (.t 3)),
 Qo 5 (.fld (.t 4) 0),
 Qo 6 (.ld (.t 5) none),
 Qm 7 0,
 Qo 8 (.nck (.t 7)),
 Qo 9 (.fld (.t 8) 1),
 Qo 10 (.ld (.t 9) none),
 Qo 11 (.ix (.t 6) (.t 10) 3),
 Qo 12 (.ld (.t 11) (some 3)),
 ⟨none,.st (.t 2) (.t 12) 3,none⟩] [2])
 .ret))
noncomputable def EG:Cx:=⟨Tryz.prog,64,Tryz.f64,13,[],[],[.c 2 (some 3)]⟩
theorem Kz:Good EG:=⟨Tryz.func64,by kernel_rfl⟩
theorem RJ:EG.rs=[.c 2 (some 3)]:=rfl
theorem Rs (hl:args.length≤13) (h:Run EG K [.code Ki] (An args) E σ):AR Tryz.prog 64 args σ K:=
 AW (cx:=EG) (code:=Tryz.f64.body.getD .skip) Kz (by kernel_rfl) Tryz.ntmps64 hl (AY EG _ (As Ki) _ [] (by kernel_rfl)) h
def Iy:C:=(.seq (.reg [Qo 4 (.mv (.c (.d (.bool false))))] [0,1])
 (.seq (.seq (.reg [Qm 5 0,
 Qo 6 (.call 64 [(.t 5)]),
 Qo 7 (.fd (.t 6) 1 none),
 Qm 8 1,
 Qo 9 (.bin .neq (.t 7) (.t 8))] [0,9])
 (.cond (.t 9) (.seq (.reg [Qo 4 (.mv (.c (.d (.bool false))))] [4])
 .ret)
 .skip))
 (.seq (.reg [Qm 10 0,
 Qo 11 (.nck (.t 10)),
 Qo 12 (.fld (.t 11) 1),
 Qo 13 (.ld (.t 12) none),
 Qo 14 (.bin .add (.t 13) (.c (.d (.int .i64 1)))),
 Qo 15 (.nck (.t 10)),
 Qo 16 (.fld (.t 15) 1),
 ⟨none,.st (.t 16) (.t 14) 1,none⟩] [])
 (.seq (.reg [Qo 4 (.mv (.c (.d (.bool true))))] [4])
 .ret))))
noncomputable def DQ:Cx:=⟨Tryz.prog,65,Tryz.f65,17,[],[],[.t 4]⟩
theorem GG:Good DQ:=⟨Tryz.func65,by kernel_rfl⟩
theorem PF:DQ.rs=[.t 4]:=rfl
theorem JP (hl:args.length≤17) (h:Run DQ K [.code Iy] (An args) E σ):AR Tryz.prog 65 args σ K:=
 AW (cx:=DQ) (code:=Tryz.f65.body.getD .skip) GG (by kernel_rfl) Tryz.ntmps65 hl (AY DQ _ (As Iy) _ [] (by kernel_rfl)) h
def Ke:C:=(.seq (.reg [Qo 2 (.al [(.d (.str [])),.AX,.AX] false)] [0,2])
 (.seq (.reg [Qm 4 0,
 Qo 5 (.call 124 [(.t 4),(.c (.d (.int .i64 2)))]),
 Qo 6 (.bld [(.d (.str [])),.AX,.AX] [(0,1,(.t 5))]),
 Qo 3 (.al [(.d (.str [])),.AX,.AX] false),
 ⟨none,.st (.t 3) (.t 6) 3,none⟩] [0,2,3])
 (.seq (.reg [Qm 7 0,
 Qm 8 0,
 Qo 9 (.mkf 126 [(.t 8)] []),
 Qo 10 (.call 125 [(.t 7),(.t 9)]),
 Qo 11 (.fld (.t 3) 1),
 ⟨none,.st (.t 11) (.t 10) 1,none⟩] [0,2,3])
 (.seq (.reg [Qm 12 0,
 Qo 13 (.call 127 [(.t 12),(.c (.d (.str [61])))])] [0,2,3])
 (.seq (.reg [Qm 14 0,
 Qm 15 0,
 Qo 16 (.mkf 129 [(.t 15)] []),
 Qo 17 (.call 128 [(.t 14),(.c (.d (.str [124]))),(.t 16)]),
 Qo 18 (.fld (.t 3) 2),
 ⟨none,.st (.t 18) (.t 17) 1,none⟩] [0,2,3])
 (.seq (.reg [Qm 19 0,
 Qo 20 (.call 127 [(.t 19),(.c (.d (.str [59])))])] [2,3])
 (.seq (.reg [Qo 21 (.ldl (.t 3) (some 3)),
 ⟨none,.st (.t 2) (.t 21) 3,none⟩] [2])
 .ret)))))))
noncomputable def EB:Cx:=⟨Tryz.prog,66,Tryz.f66,22,[300021],[],[.c 2 (some 3)]⟩
theorem Kx:Good EB:=⟨Tryz.func66,by kernel_rfl⟩
theorem RE:EB.rs=[.c 2 (some 3)]:=rfl
theorem Ro (hl:args.length≤22) (h:Run EB K [.code Ke] (An args) E σ):AR Tryz.prog 66 args σ K:=
 AW (cx:=EB) (code:=Tryz.f66.body.getD .skip) Kx (by kernel_rfl) Tryz.ntmps66 hl (AY EB _ (As Ke) _ [] (by kernel_rfl)) h
def Lu:C:=(.seq (.reg [Qo 2 (.al [(.d (.str [])),.AX,(.d (.int .i64 0)),(.d (.str [])),(.d (.int .i64 0)),.AX,.AX,.AX] false)] [0,2])
 (.seq (.reg [Qm 4 0,
 Qo 5 (.call 126 [(.t 4)]),
 Qo 6 (.bld [(.d (.str [])),.AX,(.d (.int .i64 0)),(.d (.str [])),(.d (.int .i64 0)),.AX,.AX,.AX] [(0,1,(.t 5))]),
 Qo 3 (.al [(.d (.str [])),.AX,(.d (.int .i64 0)),(.d (.str [])),(.d (.int .i64 0)),.AX,.AX,.AX] false),
 ⟨none,.st (.t 3) (.t 6) 8,none⟩] [0,2,3])
 (.seq (.reg [Qm 7 0,
 Qo 8 (.call 127 [(.t 7),(.c (.d (.str [40])))])] [0,2,3])
 (.seq (.reg [Qm 9 0,
 Qm 10 0,
 Qo 11 (.mkf 126 [(.t 10)] []),
 Qo 12 (.call 130 [(.t 9),(.t 11)]),
 Qo 13 (.fld (.t 3) 1),
 ⟨none,.st (.t 13) (.t 12) 1,none⟩] [0,2,3])
 (.seq (.reg [Qm 14 0,
 Qo 15 (.call 127 [(.t 14),(.c (.d (.str [61])))])] [0,2,3])
 (.seq (.reg [Qm 16 0,
 Qo 17 (.call 131 [(.t 16)]),
 Qo 18 (.fld (.t 3) 2),
 ⟨none,.st (.t 18) (.t 17) 6,none⟩] [0,2,3])
 (.seq (.reg [Qm 19 0,
 Qo 20 (.call 127 [(.t 19),(.c (.d (.str [59])))])] [2,3])
 (.seq (.reg [Qo 21 (.ldl (.t 3) (some 8)),
 ⟨none,.st (.t 2) (.t 21) 8,none⟩] [2])
 .ret))))))))
noncomputable def E5:Cx:=⟨Tryz.prog,67,Tryz.f67,22,[300021],[],[.c 2 (some 8)]⟩
theorem MC:Good E5:=⟨Tryz.func67,by kernel_rfl⟩
theorem SU:E5.rs=[.c 2 (some 8)]:=rfl
theorem TB (hl:args.length≤22) (h:Run E5 K [.code Lu] (An args) E σ):AR Tryz.prog 67 args σ K:=
 AW (cx:=E5) (code:=Tryz.f67.body.getD .skip) MC (by kernel_rfl) Tryz.ntmps67 hl (AY E5 _ (As Lu) _ [] (by kernel_rfl)) h
def Kg:C:=(.seq (.seq (.reg [Qm 2 0,
 Qo 3 (.nck (.t 2)),
 Qo 4 (.fld (.t 3) 2),
 Qo 5 (.ld (.t 4) none),
 Qo 6 (.un .not (.t 5))] [0,6])
 (.cond (.t 6) (.reg [Qm 7 0,
 Qm 8 0,
 Qm 9 0,
 Qo 10 (.call 64 [(.t 9)]),
 Qo 11 (.fd (.t 10) 2 none),
 Qo 12 (.nck (.t 7)),
 Qo 13 (.fld (.t 12) 2),
 ⟨none,.st (.t 13) (.c (.d (.bool true))) 1,none⟩,
 Qo 14 (.nck (.t 8)),
 Qo 15 (.fld (.t 14) 3),
 ⟨none,.st (.t 15) (.t 11) 1,none⟩] [0])
 .skip))
 (.reg [Qm 16 0,
 Qm 17 0,
 Qo 18 (.nck (.t 17)),
 Qo 19 (.fld (.t 18) 0),
 Qo 20 (.ld (.t 19) none),
 Qo 21 (.len (.t 20)),
 Qo 22 (.bin .sub (.t 21) (.c (.d (.int .i64 1)))),
 Qo 23 (.nck (.t 16)),
 Qo 24 (.fld (.t 23) 1),
 ⟨none,.st (.t 24) (.t 22) 1,none⟩] []))
noncomputable def EE:Cx:=⟨Tryz.prog,68,Tryz.f68,25,[],[],[]⟩
theorem HG:Good EE:=⟨Tryz.func68,by kernel_rfl⟩
theorem RG:EE.rs=[]:=rfl
theorem Rq (hl:args.length≤25) (h:Run EE K [.code Kg] (An args) E σ):AR Tryz.prog 68 args σ K:=
 AW (cx:=EE) (code:=Tryz.f68.body.getD .skip) HG (by kernel_rfl) Tryz.ntmps68 hl (AY EE _ (As Kg) _ [] (by kernel_rfl)) h
def Je:C:=(.seq (.reg [Qo 2 (.mv (.c (.d (.str []))))] [0])
 (.seq (.seq (.reg [Qm 3 0] [3])
 (.block 0 (.seq (.reg [Qo 5 (.bin .eql (.t 3) (.c (.d (.int .i64 1)))),
 Qm 4 5] [3,4])
 (.cond (.t 4) (.seq (.reg [Qo 2 (.mv (.c (.d (.str [43]))))] [2])
 .ret)
 (.seq (.reg [Qo 7 (.bin .eql (.t 3) (.c (.d (.int .i64 2)))),
 Qm 6 7] [3,6])
 (.cond (.t 6) (.seq (.reg [Qo 2 (.mv (.c (.d (.str [45]))))] [2])
 .ret)
 (.seq (.reg [Qo 9 (.bin .eql (.t 3) (.c (.d (.int .i64 3)))),
 Qm 8 9] [3,8])
 (.cond (.t 8) (.seq (.reg [Qo 2 (.mv (.c (.d (.str [42]))))] [2])
 .ret)
 (.seq (.reg [Qo 11 (.bin .eql (.t 3) (.c (.d (.int .i64 4)))),
 Qm 10 11] [3,10])
 (.cond (.t 10) (.seq (.reg [Qo 2 (.mv (.c (.d (.str [47]))))] [2])
 .ret)
 (.seq (.reg [Qo 13 (.bin .eql (.t 3) (.c (.d (.int .i64 5)))),
 Qm 12 13] [3,12])
 (.cond (.t 12) (.seq (.reg [Qo 2 (.mv (.c (.d (.str [37]))))] [2])
 .ret)
 (.seq (.reg [Qo 15 (.bin .eql (.t 3) (.c (.d (.int .i64 6)))),
 Qm 14 15] [3,14])
 (.cond (.t 14) (.seq (.reg [Qo 2 (.mv (.c (.d (.str [60]))))] [2])
 .ret)
 (.seq (.reg [Qo 17 (.bin .eql (.t 3) (.c (.d (.int .i64 7)))),
 Qm 16 17] [16])
 (.cond (.t 16) (.seq (.reg [Qo 2 (.mv (.c (.d (.str [60,61]))))] [2])
 .ret)
 .skip))))))))))))))))
 (.seq (.reg [Qo 2 (.mv (.c (.d (.str [61,61]))))] [2])
 .ret)))
noncomputable def D7:Cx:=⟨Tryz.prog,91,Tryz.f91,18,[],[],[.t 2]⟩
theorem Jp:Good D7:=⟨Tryz.func91,by kernel_rfl⟩
theorem QK:D7.rs=[.t 2]:=rfl
theorem Ql (hl:args.length≤18) (h:Run D7 K [.code Je] (An args) E σ):AR Tryz.prog 91 args σ K:=
 AW (cx:=D7) (code:=Tryz.f91.body.getD .skip) Jp (by kernel_rfl) Tryz.ntmps91 hl (AY D7 _ (As Je) _ [] (by kernel_rfl)) h
def Kl:C:=(.seq (.reg [Qo 4 (.mv (.c (.d (.str []))))] [0,1])
 (.seq (.reg [Qm 6 0,
 Qo 7 (.call 64 [(.t 6)]),
 Qo 5 (.al [(.d (.int .i64 0)),(.d (.str [])),(.d (.int .i64 0))] false),
 ⟨none,.st (.t 5) (.t 7) 3,none⟩] [0,1,5])
 (.seq (.seq (.reg [Qo 8 (.fld (.t 5) 0),
 Qo 9 (.ldl (.t 8) none),
 Qm 10 1,
 Qo 11 (.bin .neq (.t 9) (.t 10))] [0,5,11])
 (.cond (.t 11) (.seq (.reg [Qm 12 0,
 Qo 13 (.call 68 [(.t 12)])] [])
 (.seq (.reg [Qo 4 (.mv (.c (.d (.str []))))] [4])
 .ret))
 .skip))
 (.seq (.reg [Qm 14 0,
 Qo 15 (.nck (.t 14)),
 Qo 16 (.fld (.t 15) 1),
 Qo 17 (.ld (.t 16) none),
 Qo 18 (.bin .add (.t 17) (.c (.d (.int .i64 1)))),
 Qo 19 (.nck (.t 14)),
 Qo 20 (.fld (.t 19) 1),
 ⟨none,.st (.t 20) (.t 18) 1,none⟩] [5])
 (.seq (.reg [Qo 21 (.fld (.t 5) 1),
 Qo 22 (.ldl (.t 21) none),
 Qm 4 22] [4])
 .ret)))))
noncomputable def EJ:Cx:=⟨Tryz.prog,124,Tryz.f124,23,[300009,300022],[],[.t 4]⟩
theorem HH:Good EJ:=⟨Tryz.func124,by kernel_rfl⟩
theorem RN:EJ.rs=[.t 4]:=rfl
theorem Rv (hl:args.length≤23) (h:Run EJ K [.code Kl] (An args) E σ):AR Tryz.prog 124 args σ K:=
 AW (cx:=EJ) (code:=Tryz.f124.body.getD .skip) HH (by kernel_rfl) Tryz.ntmps124 hl (AY EJ _ (As Kl) _ [] (by kernel_rfl)) h
def Ix:C:=(.seq (.reg [Qo 4 (.mv (.c .AX))] [0,1])
 (.seq (.seq (.reg [Qm 5 0,
 Qo 6 (.call 65 [(.t 5),(.c (.d (.str [40])))]),
 Qo 7 (.un .not (.t 6))] [0,1,7])
 (.cond (.t 7) (.seq (.reg [Qo 4 (.mv (.c .AX))] [4])
 .ret)
 .skip))
 (.seq (.reg [Qm 8 0,
 Qm 9 1,
 Qo 10 (.call 166 [(.t 8),(.t 9)]),
 Qm 4 10] [4])
 .ret)))
noncomputable def DP:Cx:=⟨Tryz.prog,125,Tryz.f125,11,[],[],[.t 4]⟩
theorem GF:Good DP:=⟨Tryz.func125,by kernel_rfl⟩
theorem PE:DP.rs=[.t 4]:=rfl
theorem Ps (hl:args.length≤11) (h:Run DP K [.code Ix] (An args) E σ):AR Tryz.prog 125 args σ K:=
 AW (cx:=DP) (code:=Tryz.f125.body.getD .skip) GF (by kernel_rfl) Tryz.ntmps125 hl (AY DP _ (As Ix) _ [] (by kernel_rfl)) h
def Kh:C:=(.seq (.reg [Qo 2 (.mv (.c (.d (.str []))))] [0])
 (.seq (.reg [Qm 3 0,
 Qo 4 (.call 124 [(.t 3),(.c (.d (.int .i64 1)))]),
 Qm 2 4] [2])
 .ret))
noncomputable def EF:Cx:=⟨Tryz.prog,126,Tryz.f126,5,[],[],[.t 2]⟩
theorem Ky:Good EF:=⟨Tryz.func126,by kernel_rfl⟩
theorem RH:EF.rs=[.t 2]:=rfl
theorem Rr (hl:args.length≤5) (h:Run EF K [.code Kh] (An args) E σ):AR Tryz.prog 126 args σ K:=
 AW (cx:=EF) (code:=Tryz.f126.body.getD .skip) Ky (by kernel_rfl) Tryz.ntmps126 hl (AY EF _ (As Kh) _ [] (by kernel_rfl)) h
def JA:C:=(.seq (.reg [Qm 4 0,
 Qm 5 1,
 Qo 6 (.call 65 [(.t 4),(.t 5)]),
 Qo 7 (.un .not (.t 6))] [0,7])
 (.cond (.t 7) (.reg [Qm 8 0,
 Qo 9 (.call 68 [(.t 8)])] [])
 .skip))
noncomputable def DR:Cx:=⟨Tryz.prog,127,Tryz.f127,10,[],[],[]⟩
theorem GH:Good DR:=⟨Tryz.func127,by kernel_rfl⟩
theorem PG:DR.rs=[]:=rfl
theorem Pt (hl:args.length≤10) (h:Run DR K [.code JA] (An args) E σ):AR Tryz.prog 127 args σ K:=
 AW (cx:=DR) (code:=Tryz.f127.body.getD .skip) GH (by kernel_rfl) Tryz.ntmps127 hl (AY DR _ (As JA) _ [] (by kernel_rfl)) h
def Kb:C:=(.seq (.seq (.reg [Qm 11 0,
 Qm 12 1,
 Qo 13 (.call 65 [(.t 11),(.t 12)])] [0,1,2,7,13])
 (.cond (.t 13) .skip
 (.exit 0)))
 (.block 1 (.reg [Qm 14 7,
 Qm 15 2,
 Qo 16 (.ER (.t 15) []),
 Qo 17 (.bsl 2 1 [(.d (.str [])),.AX] [(0,2,(.t 16))]),
 Qo 18 (.app 72 2 40 (.t 14) (.t 17)),
 Qm 7 18] [0,1,2,7])))
def Gr:C:=(.seq (.reg [Qo 6 (.mv (.c .AX))] [0,1,2])
 (.seq (.reg [Qm 8 2,
 Qo 9 (.ER (.t 8) []),
 Qo 10 (.Me 72 2 1 [(.d (.str [])),.AX] [(0,2,(.t 9))]),
 Qm 7 10] [0,1,2,7])
 (.seq (.block 0 (.loop Kb))
 (.seq (.reg [Qm 19 7,
 Qm 6 19] [6])
 .ret))))
noncomputable def CW:Cx:=⟨Tryz.prog,128,Tryz.f128,20,[10],[],[.t 6]⟩
theorem HB:Good CW:=⟨Tryz.func128,by kernel_rfl⟩
theorem M1:CW.rs=[.t 6]:=rfl
theorem Mz (hl:args.length≤20) (h:Run CW K [.code Gr] (An args) E σ):AR Tryz.prog 128 args σ K:=
 AW (cx:=CW) (code:=Tryz.f128.body.getD .skip) HB (by kernel_rfl) Tryz.ntmps128 hl (AY CW _ (As Gr) _ [] (by kernel_rfl)) h
def Lt:C:=(.seq (.reg [Qo 2 (.al [(.d (.str [])),.AX] false)] [0,2])
 (.seq (.reg [Qm 4 0,
 Qo 5 (.call 124 [(.t 4),(.c (.d (.int .i64 2)))]),
 Qo 6 (.bld [(.d (.str [])),.AX] [(0,1,(.t 5))]),
 Qo 3 (.al [(.d (.str [])),.AX] false),
 ⟨none,.st (.t 3) (.t 6) 2,none⟩] [0,2,3])
 (.seq (.reg [Qm 7 0,
 Qm 8 0,
 Qo 9 (.mkf 168 [(.t 8)] []),
 Qo 10 (.call 167 [(.t 7),(.t 9)]),
 Qo 11 (.fld (.t 3) 1),
 ⟨none,.st (.t 11) (.t 10) 1,none⟩] [2,3])
 (.seq (.reg [Qo 12 (.ldl (.t 3) (some 2)),
 ⟨none,.st (.t 2) (.t 12) 2,none⟩] [2])
 .ret))))
noncomputable def E4:Cx:=⟨Tryz.prog,129,Tryz.f129,13,[300012],[],[.c 2 (some 2)]⟩
theorem MB:Good E4:=⟨Tryz.func129,by kernel_rfl⟩
theorem SS:E4.rs=[.c 2 (some 2)]:=rfl
theorem TA (hl:args.length≤13) (h:Run E4 K [.code Lt] (An args) E σ):AR Tryz.prog 129 args σ K:=
 AW (cx:=E4) (code:=Tryz.f129.body.getD .skip) MB (by kernel_rfl) Tryz.ntmps129 hl (AY E4 _ (As Lt) _ [] (by kernel_rfl)) h
def Ir:C:=(.seq (.reg [Qo 4 (.mv (.c .AX))] [0,1])
 (.seq (.seq (.reg [Qm 5 0,
 Qo 6 (.call 65 [(.t 5),(.c (.d (.str [41])))])] [0,1,6])
 (.cond (.t 6) (.seq (.reg [Qo 4 (.mv (.c .AX))] [4])
 .ret)
 .skip))
 (.seq (.reg [Qm 7 0,
 Qm 8 1,
 Qo 9 (.call 166 [(.t 7),(.t 8)]),
 Qm 4 9] [4])
 .ret)))
noncomputable def DK:Cx:=⟨Tryz.prog,130,Tryz.f130,10,[],[],[.t 4]⟩
theorem GC:Good DK:=⟨Tryz.func130,by kernel_rfl⟩
theorem Oy:DK.rs=[.t 4]:=rfl
theorem Pm (hl:args.length≤10) (h:Run DK K [.code Ir] (An args) E σ):AR Tryz.prog 130 args σ K:=
 AW (cx:=DK) (code:=Tryz.f130.body.getD .skip) GC (by kernel_rfl) Tryz.ntmps130 hl (AY DK _ (As Ir) _ [] (by kernel_rfl)) h
def Kf:C:=(.seq (.reg [Qo 2 (.al [(.d (.int .i64 0)),(.d (.str [])),(.d (.int .i64 0)),.AX,.AX,.AX] false)] [0,2])
 (.seq (.block 0 (.seq (.reg [Qm 11 0,
 Qo 12 (.call 65 [(.t 11),(.c (.d (.str [108,101,116])))]),
 Qm 10 12] [0,2,10])
 (.cond (.t 10) (.seq (.reg [Qm 13 0,
 Qo 14 (.call 169 [(.t 13)]),
 ⟨none,.st (.t 2) (.t 14) 6,none⟩] [2])
 .ret)
 (.seq (.reg [Qm 16 0,
 Qo 17 (.call 65 [(.t 16),(.c (.d (.str [105,102])))]),
 Qm 15 17] [0,2,15])
 (.cond (.t 15) (.seq (.reg [Qm 18 0,
 Qo 19 (.call 131 [(.t 18)]),
 Qo 3 (.al [(.d (.int .i64 0)),(.d (.str [])),(.d (.int .i64 0)),.AX,.AX,.AX] false),
 ⟨none,.st (.t 3) (.t 19) 6,none⟩] [0,2,3])
 (.seq (.reg [Qm 20 0,
 Qo 21 (.call 127 [(.t 20),(.c (.d (.str [116,104,101,110])))])] [0,2,3])
 (.seq (.reg [Qm 22 0,
 Qo 23 (.call 131 [(.t 22)]),
 Qo 4 (.al [(.d (.int .i64 0)),(.d (.str [])),(.d (.int .i64 0)),.AX,.AX,.AX] false),
 ⟨none,.st (.t 4) (.t 23) 6,none⟩] [0,2,3,4])
 (.seq (.reg [Qm 24 0,
 Qo 25 (.call 127 [(.t 24),(.c (.d (.str [101,108,115,101])))])] [0,2,3,4])
 (.seq (.reg [Qo 26 (.ldl (.t 3) (some 6)),
 Qo 27 (.ldl (.t 4) (some 6)),
 Qm 28 0,
 Qo 29 (.call 131 [(.t 28)]),
 Qo 30 (.bsl 6 3 [(.d (.int .i64 0)),(.d (.str [])),(.d (.int .i64 0)),.AX,.AX,.AX,(.d (.int .i64 0)),(.d (.str [])),(.d (.int .i64 0)),.AX,.AX,.AX,(.d (.int .i64 0)),(.d (.str [])),(.d (.int .i64 0)),.AX,.AX,.AX] [(0,6,(.t 26)),(6,6,(.t 27)),(12,6,(.t 29))]),
 Qo 31 (.bld [(.d (.int .i64 0)),(.d (.str [])),(.d (.int .i64 0)),.AX,.AX,.AX] [(0,1,(.c (.d (.int .i64 9)))),(4,1,(.t 30))]),
 ⟨none,.st (.t 2) (.t 31) 6,none⟩] [2])
 .ret)))))
 (.seq (.reg [Qm 33 0,
 Qo 34 (.call 65 [(.t 33),(.c (.d (.str [109,97,116,99,104])))]),
 Qm 32 34] [0,2,32])
 (.cond (.t 32) (.seq (.reg [Qm 35 0,
 Qo 36 (.call 131 [(.t 35)]),
 Qo 37 (.bsl 6 1 [(.d (.int .i64 0)),(.d (.str [])),(.d (.int .i64 0)),.AX,.AX,.AX] [(0,6,(.t 36))]),
 Qo 38 (.bld [(.d (.int .i64 0)),(.d (.str [])),(.d (.int .i64 0)),.AX,.AX,.AX] [(0,1,(.c (.d (.int .i64 10)))),(4,1,(.t 37))]),
 Qo 5 (.al [(.d (.int .i64 0)),(.d (.str [])),(.d (.int .i64 0)),.AX,.AX,.AX] false),
 ⟨none,.st (.t 5) (.t 38) 6,none⟩] [0,2,5])
 (.seq (.reg [Qm 39 0,
 Qo 40 (.call 127 [(.t 39),(.c (.d (.str [119,105,116,104])))])] [0,2,5])
 (.seq (.reg [Qm 41 0,
 Qm 42 0,
 Qo 43 (.mkf 171 [(.t 42)] []),
 Qo 44 (.call 170 [(.t 41),(.c (.d (.str [124]))),(.t 43)]),
 Qo 45 (.fld (.t 5) 5),
 ⟨none,.st (.t 45) (.t 44) 1,none⟩] [0,2,5])
 (.seq (.reg [Qm 46 0,
 Qo 47 (.call 127 [(.t 46),(.c (.d (.str [101,110,100])))])] [2,5])
 (.seq (.reg [Qo 48 (.ldl (.t 5) (some 6)),
 ⟨none,.st (.t 2) (.t 48) 6,none⟩] [2])
 .ret)))))
 (.seq (.reg [Qm 50 0,
 Qo 51 (.call 65 [(.t 50),(.c (.d (.str [102,110])))]),
 Qm 49 51] [0,2,49])
 (.cond (.t 49) (.seq (.reg [Qm 52 0,
 Qo 53 (.call 127 [(.t 52),(.c (.d (.str [40])))])] [0,2])
 (.seq (.reg [Qm 54 0,
 Qm 55 0,
 Qo 56 (.mkf 126 [(.t 55)] []),
 Qo 57 (.call 130 [(.t 54),(.t 56)]),
 Qo 58 (.bld [(.d (.int .i64 0)),(.d (.str [])),(.d (.int .i64 0)),.AX,.AX,.AX] [(0,1,(.c (.d (.int .i64 11)))),(3,1,(.t 57))]),
 Qo 6 (.al [(.d (.int .i64 0)),(.d (.str [])),(.d (.int .i64 0)),.AX,.AX,.AX] false),
 ⟨none,.st (.t 6) (.t 58) 6,none⟩] [0,2,6])
 (.seq (.reg [Qm 59 0,
 Qo 60 (.call 127 [(.t 59),(.c (.d (.str [45,62])))])] [0,2,6])
 (.seq (.reg [Qm 61 0,
 Qo 62 (.call 131 [(.t 61)]),
 Qo 63 (.bsl 6 1 [(.d (.int .i64 0)),(.d (.str [])),(.d (.int .i64 0)),.AX,.AX,.AX] [(0,6,(.t 62))]),
 Qo 64 (.fld (.t 6) 4),
 ⟨none,.st (.t 64) (.t 63) 1,none⟩] [2,6])
 (.seq (.reg [Qo 65 (.ldl (.t 6) (some 6)),
 ⟨none,.st (.t 2) (.t 65) 6,none⟩] [2])
 .ret)))))
 (.seq (.reg [Qm 67 0,
 Qo 68 (.call 65 [(.t 67),(.c (.d (.str [116,114,121])))]),
 Qm 66 68] [0,2,66])
 (.cond (.t 66) (.seq (.reg [Qm 69 0,
 Qo 70 (.call 131 [(.t 69)]),
 Qo 7 (.al [(.d (.int .i64 0)),(.d (.str [])),(.d (.int .i64 0)),.AX,.AX,.AX] false),
 ⟨none,.st (.t 7) (.t 70) 6,none⟩] [0,2,7])
 (.seq (.reg [Qm 71 0,
 Qo 72 (.call 127 [(.t 71),(.c (.d (.str [99,97,116,99,104])))])] [0,2,7])
 (.seq (.reg [Qm 73 0,
 Qo 74 (.call 172 [(.t 73)]),
 Qm 8 74] [0,2,7,8])
 (.seq (.reg [Qm 75 0,
 Qo 76 (.call 127 [(.t 75),(.c (.d (.str [45,62])))])] [0,2,7,8])
 (.seq (.reg [Qm 77 0,
 Qo 78 (.call 131 [(.t 77)]),
 Qo 9 (.al [(.d (.int .i64 0)),(.d (.str [])),(.d (.int .i64 0)),.AX,.AX,.AX] false),
 ⟨none,.st (.t 9) (.t 78) 6,none⟩] [0,2,7,8,9])
 (.seq (.reg [Qm 79 0,
 Qo 80 (.call 127 [(.t 79),(.c (.d (.str [101,110,100])))])] [2,7,8,9])
 (.seq (.reg [Qm 81 8,
 Qo 82 (.ldl (.t 7) (some 6)),
 Qo 83 (.ldl (.t 9) (some 6)),
 Qo 84 (.bsl 6 2 [(.d (.int .i64 0)),(.d (.str [])),(.d (.int .i64 0)),.AX,.AX,.AX,(.d (.int .i64 0)),(.d (.str [])),(.d (.int .i64 0)),.AX,.AX,.AX] [(0,6,(.t 82)),(6,6,(.t 83))]),
 Qo 85 (.bld [(.d (.int .i64 0)),(.d (.str [])),(.d (.int .i64 0)),.AX,.AX,.AX] [(0,1,(.c (.d (.int .i64 17)))),(1,1,(.t 81)),(4,1,(.t 84))]),
 ⟨none,.st (.t 2) (.t 85) 6,none⟩] [2])
 .ret)))))))
 .skip)))))))))))
 (.seq (.reg [Qm 86 0,
 Qo 87 (.call 173 [(.t 86)]),
 ⟨none,.st (.t 2) (.t 87) 6,none⟩] [2])
 .ret)))
noncomputable def ED:Cx:=⟨Tryz.prog,131,Tryz.f131,88,[300026,300027,300048,300065,300082,300083],[],[.c 2 (some 6)]⟩
theorem CS:Good ED:=⟨Tryz.func131,by kernel_rfl⟩
theorem RF:ED.rs=[.c 2 (some 6)]:=rfl
theorem Rp (hl:args.length≤88) (h:Run ED K [.code Kf] (An args) E σ):AR Tryz.prog 131 args σ K:=
 AW (cx:=ED) (code:=Tryz.f131.body.getD .skip) CS (by kernel_rfl) Tryz.ntmps131 hl (AY ED _ (As Kf) _ [] (by kernel_rfl)) h
def Iw:C:=(.seq (.reg [Qo 2 (.mv (.c (.d (.int .i64 0))))] [0])
 (.seq (.seq (.reg [Qm 3 0] [3])
 (.block 0 (.seq (.seq (.reg [Qo 5 (.bin .eql (.t 3) (.c (.d (.int .i64 1)))),
 Qm 4 5] [3,4])
 (.cond (.t 4) .skip
 (.reg [Qo 6 (.bin .eql (.t 3) (.c (.d (.int .i64 2)))),
 Qm 4 6] [3,4])))
 (.cond (.t 4) (.seq (.reg [Qo 2 (.mv (.c (.d (.int .i64 2))))] [2])
 .ret)
 (.seq (.seq (.reg [Qo 8 (.bin .eql (.t 3) (.c (.d (.int .i64 3)))),
 Qm 7 8] [3,7])
 (.cond (.t 7) .skip
 (.seq (.reg [Qo 9 (.bin .eql (.t 3) (.c (.d (.int .i64 4)))),
 Qm 7 9] [3,7])
 (.cond (.t 7) .skip
 (.reg [Qo 10 (.bin .eql (.t 3) (.c (.d (.int .i64 5)))),
 Qm 7 10] [7])))))
 (.cond (.t 7) (.seq (.reg [Qo 2 (.mv (.c (.d (.int .i64 3))))] [2])
 .ret)
 .skip))))))
 (.seq (.reg [Qo 2 (.mv (.c (.d (.int .i64 1))))] [2])
 .ret)))
noncomputable def DO:Cx:=⟨Tryz.prog,138,Tryz.f138,11,[],[],[.t 2]⟩
theorem GD:Good DO:=⟨Tryz.func138,by kernel_rfl⟩
theorem PD:DO.rs=[.t 2]:=rfl
theorem Pq (hl:args.length≤11) (h:Run DO K [.code Iw] (An args) E σ):AR Tryz.prog 138 args σ K:=
 AW (cx:=DO) (code:=Tryz.f138.body.getD .skip) GD (by kernel_rfl) Tryz.ntmps138 hl (AY DO _ (As Iw) _ [] (by kernel_rfl)) h
def Iu:C:=(.seq (.reg [Qo 4 (.mv (.c .AX))] [0,1])
 (.seq (.reg [Qm 6 0,
 Qm 7 1,
 Qo 8 (.call 182 [(.t 6),(.c (.d (.str [44]))),(.t 7)]),
 Qm 5 8] [0,5])
 (.seq (.reg [Qm 9 0,
 Qo 10 (.call 127 [(.t 9),(.c (.d (.str [41])))])] [5])
 (.seq (.reg [Qm 11 5,
 Qm 4 11] [4])
 .ret))))
noncomputable def DM:Cx:=⟨Tryz.prog,166,Tryz.f166,12,[],[],[.t 4]⟩
theorem JI:Good DM:=⟨Tryz.func166,by kernel_rfl⟩
theorem PA:DM.rs=[.t 4]:=rfl
theorem Po (hl:args.length≤12) (h:Run DM K [.code Iu] (An args) E σ):AR Tryz.prog 166 args σ K:=
 AW (cx:=DM) (code:=Tryz.f166.body.getD .skip) JI (by kernel_rfl) Tryz.ntmps166 hl (AY DM _ (As Iu) _ [] (by kernel_rfl)) h
def GQ:C:=(.seq (.reg [Qo 4 (.mv (.c .AX))] [0,1])
 (.seq (.seq (.reg [Qm 5 0,
 Qo 6 (.call 65 [(.t 5),(.c (.d (.str [40])))]),
 Qo 7 (.un .not (.t 6))] [0,1,7])
 (.cond (.t 7) (.seq (.reg [Qo 4 (.mv (.c .AX))] [4])
 .ret)
 .skip))
 (.seq (.reg [Qm 8 0,
 Qm 9 1,
 Qo 10 (.call 183 [(.t 8),(.t 9)]),
 Qm 4 10] [4])
 .ret)))
noncomputable def Bw:Cx:=⟨Tryz.prog,167,Tryz.f167,11,[],[],[.t 4]⟩
theorem EU:Good Bw:=⟨Tryz.func167,by kernel_rfl⟩
theorem LN:Bw.rs=[.t 4]:=rfl
theorem Lc (hl:args.length≤11) (h:Run Bw K [.code GQ] (An args) E σ):AR Tryz.prog 167 args σ K:=
 AW (cx:=Bw) (code:=Tryz.f167.body.getD .skip) EU (by kernel_rfl) Tryz.ntmps167 hl (AY Bw _ (As GQ) _ [] (by kernel_rfl)) h
def Sw:C:=(.seq (.reg [Qo 2 (.al [(.d (.int .i64 0)),(.d (.str [])),.AX] false)] [0,2])
 (.seq (.seq (.reg [Qm 7 0,
 Qo 8 (.call 64 [(.t 7)]),
 Qo 3 (.al [(.d (.int .i64 0)),(.d (.str [])),(.d (.int .i64 0))] false),
 ⟨none,.st (.t 3) (.t 8) 3,none⟩] [0,2,3])
 (.block 0 (.seq (.reg [Qo 10 (.fld (.t 3) 0),
 Qo 11 (.ldl (.t 10) none),
 Qo 12 (.bin .eql (.t 11) (.c (.d (.int .i64 1)))),
 Qm 9 12] [0,2,3,9])
 (.cond (.t 9) (.seq (.reg [Qm 13 0,
 Qo 14 (.call 126 [(.t 13)]),
 Qo 15 (.bld [(.d (.int .i64 0)),(.d (.str [])),.AX] [(0,1,(.c (.d (.int .i64 4)))),(1,1,(.t 14))]),
 ⟨none,.st (.t 2) (.t 15) 3,none⟩] [2])
 .ret)
 (.seq (.reg [Qo 17 (.fld (.t 3) 0),
 Qo 18 (.ldl (.t 17) none),
 Qo 19 (.bin .eql (.t 18) (.c (.d (.int .i64 2)))),
 Qm 16 19] [0,2,16])
 (.cond (.t 16) (.seq (.reg [Qm 20 0,
 Qo 21 (.call 124 [(.t 20),(.c (.d (.int .i64 2)))]),
 Qo 22 (.bld [(.d (.int .i64 0)),(.d (.str [])),.AX] [(0,1,(.c (.d (.int .i64 5)))),(1,1,(.t 21))]),
 Qo 4 (.al [(.d (.int .i64 0)),(.d (.str [])),.AX] false),
 ⟨none,.st (.t 4) (.t 22) 3,none⟩] [0,2,4])
 (.seq (.reg [Qm 23 0,
 Qm 24 0,
 Qo 25 (.mkf 168 [(.t 24)] []),
 Qo 26 (.call 167 [(.t 23),(.t 25)]),
 Qo 27 (.fld (.t 4) 2),
 ⟨none,.st (.t 27) (.t 26) 1,none⟩] [2,4])
 (.seq (.reg [Qo 28 (.ldl (.t 4) (some 3)),
 ⟨none,.st (.t 2) (.t 28) 3,none⟩] [2])
 .ret)))
 (.seq (.reg [Qm 30 0,
 Qo 31 (.call 65 [(.t 30),(.c (.d (.str [105,110,116])))]),
 Qm 29 31] [0,2,29])
 (.cond (.t 29) (.seq (.reg [Qo 32 (.bld [(.d (.int .i64 0)),(.d (.str [])),.AX] [(0,1,(.c (.d (.int .i64 1))))]),
 ⟨none,.st (.t 2) (.t 32) 3,none⟩] [2])
 .ret)
 (.seq (.reg [Qm 34 0,
 Qo 35 (.call 65 [(.t 34),(.c (.d (.str [98,111,111,108])))]),
 Qm 33 35] [0,2,33])
 (.cond (.t 33) (.seq (.reg [Qo 36 (.bld [(.d (.int .i64 0)),(.d (.str [])),.AX] [(0,1,(.c (.d (.int .i64 2))))]),
 ⟨none,.st (.t 2) (.t 36) 3,none⟩] [2])
 .ret)
 (.seq (.reg [Qm 38 0,
 Qo 39 (.call 65 [(.t 38),(.c (.d (.str [117,110,105,116])))]),
 Qm 37 39] [0,2,37])
 (.cond (.t 37) (.seq (.reg [Qo 40 (.bld [(.d (.int .i64 0)),(.d (.str [])),.AX] [(0,1,(.c (.d (.int .i64 3))))]),
 ⟨none,.st (.t 2) (.t 40) 3,none⟩] [2])
 .ret)
 (.seq (.reg [Qm 42 0,
 Qo 43 (.call 65 [(.t 42),(.c (.d (.str [97,114,114,97,121])))]),
 Qm 41 43] [0,2,41])
 (.cond (.t 41) (.seq (.reg [Qm 44 0,
 Qo 45 (.call 184 [(.t 44),(.c (.d (.int .i64 7)))]),
 ⟨none,.st (.t 2) (.t 45) 3,none⟩] [2])
 .ret)
 (.seq (.reg [Qm 47 0,
 Qo 48 (.call 65 [(.t 47),(.c (.d (.str [114,101,102])))]),
 Qm 46 48] [0,2,46])
 (.cond (.t 46) (.seq (.reg [Qm 49 0,
 Qo 50 (.call 184 [(.t 49),(.c (.d (.int .i64 8)))]),
 ⟨none,.st (.t 2) (.t 50) 3,none⟩] [2])
 .ret)
 (.seq (.reg [Qm 52 0,
 Qo 53 (.call 65 [(.t 52),(.c (.d (.str [40])))]),
 Qm 51 53] [0,2,51])
 (.cond (.t 51) (.seq (.reg [Qm 54 0,
 Qo 55 (.call 168 [(.t 54)]),
 Qo 5 (.al [(.d (.int .i64 0)),(.d (.str [])),.AX] false),
 ⟨none,.st (.t 5) (.t 55) 3,none⟩] [0,2,5])
 (.seq (.reg [Qm 56 0,
 Qo 57 (.call 127 [(.t 56),(.c (.d (.str [44])))])] [0,2,5])
 (.seq (.SO (.one (Qo 58 (.ldl (.t 5) (some 3)))
 (.one (Qm 60 0)
 (.one (Qm 61 0)
 (.one (Qo 62 (.mkf 168 [(.t 61)] []))
 (.alt (Qo 59 (.Me 75 3 1 [(.d (.int .i64 0)),(.d (.str [])),.AX] [(0,3,(.t 58))]))
 (.one (Qo 63 (.call 183 [(.t 60),(.t 62)]))
 (.one (Qo 64 (.app 75 3 48 (.t 59) (.t 63)))
 (.one (Qo 65 (.bld [(.d (.int .i64 0)),(.d (.str [])),.AX] [(0,1,(.c (.d (.int .i64 6)))),(2,1,(.t 64))]))
 (.one ⟨none,.st (.t 2) (.t 65) 3,none⟩
 .done))))
 (.alt (Qo 63 (.call 183 [(.t 60),(.t 62)]))
 (.one (Qo 59 (.Me 75 3 1 [(.d (.int .i64 0)),(.d (.str [])),.AX] [(0,3,(.t 58))]))
 (.one (Qo 64 (.app 75 3 48 (.t 59) (.t 63)))
 (.one (Qo 65 (.bld [(.d (.int .i64 0)),(.d (.str [])),.AX] [(0,1,(.c (.d (.int .i64 6)))),(2,1,(.t 64))]))
 (.one ⟨none,.st (.t 2) (.t 65) 3,none⟩
 .done))))
 .done)))))) [2])
 .ret)))
 (.seq (.reg [Qm 67 0,
 Qo 68 (.call 65 [(.t 67),(.c (.d (.str [102,110])))]),
 Qm 66 68] [0,2,66])
 (.cond (.t 66) (.seq (.reg [Qm 69 0,
 Qo 70 (.call 127 [(.t 69),(.c (.d (.str [40])))])] [0,2])
 (.seq (.reg [Qm 71 0,
 Qm 72 0,
 Qo 73 (.mkf 168 [(.t 72)] []),
 Qo 74 (.call 185 [(.t 71),(.t 73)]),
 Qm 6 74] [0,2,6])
 (.seq (.reg [Qm 75 0,
 Qo 76 (.call 127 [(.t 75),(.c (.d (.str [45,62])))])] [0,2,6])
 (.seq (.reg [Qm 77 6,
 Qm 78 0,
 Qo 79 (.call 168 [(.t 78)]),
 Qo 80 (.bsl 3 1 [(.d (.int .i64 0)),(.d (.str [])),.AX] [(0,3,(.t 79))]),
 Qo 81 (.app 75 3 48 (.t 77) (.t 80)),
 Qo 82 (.bld [(.d (.int .i64 0)),(.d (.str [])),.AX] [(0,1,(.c (.d (.int .i64 9)))),(2,1,(.t 81))]),
 ⟨none,.st (.t 2) (.t 82) 3,none⟩] [2])
 .ret))))
 .skip))))))))))))))))))))
 (.seq (.reg [Qm 83 0,
 Qo 84 (.call 68 [(.t 83)])] [2])
 (.seq (.reg [Qo 85 (.bld [(.d (.int .i64 0)),(.d (.str [])),.AX] []),
 ⟨none,.st (.t 2) (.t 85) 3,none⟩] [2])
 .ret))))
def TR:List (List Nat×PT):=[([0,2],.done),([0,2,3],.done),([0,2,3,9],.done),([2],.done),([0,2,16],.done),([0,2,4],.done),([2,4],.done),([2],.done),([0,2,29],.done),([2],.done),([0,2,33],.done),([2],.done),([0,2,37],.done),([2],.done),([0,2,41],.done),([2],.done),([0,2,46],.done),([2],.done),([0,2,51],.done),([0,2,5],.done),([0,2,5],.done),([2],(.one 0 (.one 2 (.one 3 (.one 4 (.alt 1 (.one 5 (.one 6 (.one 7 (.one 8 .done)))) (.alt 5 (.one 1 (.one 6 (.one 7 (.one 8 .done)))) .done))))))),([0,2,66],.done),([0,2],.done),([0,2,6],.done),([0,2,6],.done),([2],.done),([2],.done),([2],.done)]
noncomputable def E8:Cx:=⟨Tryz.prog,168,Tryz.f168,86,[59,300011,300018,300028,300058],[],[.c 2 (some 3)]⟩
theorem BR:Good E8:=⟨Tryz.func168,by kernel_rfl⟩
theorem SY:E8.rs=[.c 2 (some 3)]:=rfl
theorem TF (hl:args.length≤86) (h:Run E8 K [.code Sw] (An args) E σ):AR Tryz.prog 168 args σ K:=
 AW (cx:=E8) (code:=Tryz.f168.body.getD .skip) BR (by kernel_rfl) Tryz.ntmps168 hl (AY E8 _ TR _ [] (by kernel_rfl)) h
def Lv:C:=(.seq (.reg [Qo 2 (.al [(.d (.int .i64 0)),(.d (.str [])),(.d (.int .i64 0)),.AX,.AX,.AX] false)] [0,2])
 (.seq (.reg [Qo 3 (.al [(.d (.int .i64 0)),(.d (.str [])),(.d (.int .i64 0)),.AX,.AX,.AX] false)] [0,2,3])
 (.seq (.seq (.reg [Qm 6 0,
 Qo 7 (.call 65 [(.t 6),(.c (.d (.str [40])))])] [0,2,3,7])
 (.cond (.t 7) (.seq (.reg [Qm 8 0,
 Qo 9 (.call 172 [(.t 8)]),
 Qm 4 9] [0,2,3,4])
 (.seq (.reg [Qm 10 0,
 Qo 11 (.call 127 [(.t 10),(.c (.d (.str [44])))])] [0,2,3,4])
 (.reg [Qm 12 4,
 Qo 13 (.Me 9 1 1 [(.d (.str []))] [(0,1,(.t 12))]),
 Qm 14 0,
 Qm 15 0,
 Qo 16 (.mkf 172 [(.t 15)] []),
 Qo 17 (.call 166 [(.t 14),(.t 16)]),
 Qo 18 (.app 9 1 16 (.t 13) (.t 17)),
 Qo 19 (.fld (.t 3) 0),
 ⟨none,.st (.t 19) (.c (.d (.int .i64 8))) 1,none⟩,
 Qo 20 (.fld (.t 3) 3),
 ⟨none,.st (.t 20) (.t 18) 1,none⟩] [0,2,3])))
 (.reg [Qm 21 0,
 Qo 22 (.call 172 [(.t 21)]),
 Qo 23 (.fld (.t 3) 0),
 ⟨none,.st (.t 23) (.c (.d (.int .i64 7))) 1,none⟩,
 Qo 24 (.fld (.t 3) 1),
 ⟨none,.st (.t 24) (.t 22) 1,none⟩] [0,2,3])))
 (.seq (.reg [Qm 25 0,
 Qo 26 (.call 127 [(.t 25),(.c (.d (.str [61])))])] [0,2,3])
 (.seq (.reg [Qm 27 0,
 Qo 28 (.call 131 [(.t 27)]),
 Qo 5 (.al [(.d (.int .i64 0)),(.d (.str [])),(.d (.int .i64 0)),.AX,.AX,.AX] false),
 ⟨none,.st (.t 5) (.t 28) 6,none⟩] [0,2,3,5])
 (.seq (.reg [Qm 29 0,
 Qo 30 (.call 127 [(.t 29),(.c (.d (.str [105,110])))])] [0,2,3,5])
 (.seq (.reg [Qo 31 (.ldl (.t 5) (some 6)),
 Qm 32 0,
 Qo 33 (.call 131 [(.t 32)]),
 Qo 34 (.bsl 6 2 [(.d (.int .i64 0)),(.d (.str [])),(.d (.int .i64 0)),.AX,.AX,.AX,(.d (.int .i64 0)),(.d (.str [])),(.d (.int .i64 0)),.AX,.AX,.AX] [(0,6,(.t 31)),(6,6,(.t 33))]),
 Qo 35 (.fld (.t 3) 4),
 ⟨none,.st (.t 35) (.t 34) 1,none⟩] [2,3])
 (.seq (.reg [Qo 36 (.ldl (.t 3) (some 6)),
 ⟨none,.st (.t 2) (.t 36) 6,none⟩] [2])
 .ret))))))))
noncomputable def E6:Cx:=⟨Tryz.prog,169,Tryz.f169,37,[13,300031,300036],[],[.c 2 (some 6)]⟩
theorem Hc:Good E6:=⟨Tryz.func169,by kernel_rfl⟩
theorem SW:E6.rs=[.c 2 (some 6)]:=rfl
theorem TC (hl:args.length≤37) (h:Run E6 K [.code Lv] (An args) E σ):AR Tryz.prog 169 args σ K:=
 AW (cx:=E6) (code:=Tryz.f169.body.getD .skip) Hc (by kernel_rfl) Tryz.ntmps169 hl (AY E6 _ (As Lv) _ [] (by kernel_rfl)) h
def N2:C:=(.seq (.seq (.reg [Qm 11 0,
 Qm 12 1,
 Qo 13 (.call 65 [(.t 11),(.t 12)])] [0,1,2,7,13])
 (.cond (.t 13) .skip
 (.exit 0)))
 (.block 1 (.reg [Qm 14 7,
 Qm 15 2,
 Qo 16 (.ER (.t 15) []),
 Qo 17 (.bsl 8 1 [(.d (.str [])),.AX,(.d (.int .i64 0)),(.d (.str [])),(.d (.int .i64 0)),.AX,.AX,.AX] [(0,8,(.t 16))]),
 Qo 18 (.app 112 8 144 (.t 14) (.t 17)),
 Qm 7 18] [0,1,2,7])))
def It:C:=(.seq (.reg [Qo 6 (.mv (.c .AX))] [0,1,2])
 (.seq (.reg [Qm 8 2,
 Qo 9 (.ER (.t 8) []),
 Qo 10 (.Me 112 8 1 [(.d (.str [])),.AX,(.d (.int .i64 0)),(.d (.str [])),(.d (.int .i64 0)),.AX,.AX,.AX] [(0,8,(.t 9))]),
 Qm 7 10] [0,1,2,7])
 (.seq (.block 0 (.loop N2))
 (.seq (.reg [Qm 19 7,
 Qm 6 19] [6])
 .ret))))
noncomputable def DL:Cx:=⟨Tryz.prog,170,Tryz.f170,20,[10],[],[.t 6]⟩
theorem JH:Good DL:=⟨Tryz.func170,by kernel_rfl⟩
theorem Oz:DL.rs=[.t 6]:=rfl
theorem Pn (hl:args.length≤20) (h:Run DL K [.code It] (An args) E σ):AR Tryz.prog 170 args σ K:=
 AW (cx:=DL) (code:=Tryz.f170.body.getD .skip) JH (by kernel_rfl) Tryz.ntmps170 hl (AY DL _ (As It) _ [] (by kernel_rfl)) h
def Lr:C:=(.seq (.reg [Qo 2 (.al [(.d (.str [])),.AX,(.d (.int .i64 0)),(.d (.str [])),(.d (.int .i64 0)),.AX,.AX,.AX] false)] [0,2])
 (.seq (.reg [Qm 4 0,
 Qo 5 (.call 124 [(.t 4),(.c (.d (.int .i64 2)))]),
 Qo 6 (.bld [(.d (.str [])),.AX,(.d (.int .i64 0)),(.d (.str [])),(.d (.int .i64 0)),.AX,.AX,.AX] [(0,1,(.t 5))]),
 Qo 3 (.al [(.d (.str [])),.AX,(.d (.int .i64 0)),(.d (.str [])),(.d (.int .i64 0)),.AX,.AX,.AX] false),
 ⟨none,.st (.t 3) (.t 6) 8,none⟩] [0,2,3])
 (.seq (.reg [Qm 7 0,
 Qm 8 0,
 Qo 9 (.mkf 172 [(.t 8)] []),
 Qo 10 (.call 125 [(.t 7),(.t 9)]),
 Qo 11 (.fld (.t 3) 1),
 ⟨none,.st (.t 11) (.t 10) 1,none⟩] [0,2,3])
 (.seq (.reg [Qm 12 0,
 Qo 13 (.call 127 [(.t 12),(.c (.d (.str [45,62])))])] [0,2,3])
 (.seq (.reg [Qm 14 0,
 Qo 15 (.call 131 [(.t 14)]),
 Qo 16 (.fld (.t 3) 2),
 ⟨none,.st (.t 16) (.t 15) 6,none⟩] [2,3])
 (.seq (.reg [Qo 17 (.ldl (.t 3) (some 8)),
 ⟨none,.st (.t 2) (.t 17) 8,none⟩] [2])
 .ret))))))
noncomputable def E3:Cx:=⟨Tryz.prog,171,Tryz.f171,18,[300017],[],[.c 2 (some 8)]⟩
theorem Ly:Good E3:=⟨Tryz.func171,by kernel_rfl⟩
theorem SQ:E3.rs=[.c 2 (some 8)]:=rfl
theorem Sy (hl:args.length≤18) (h:Run E3 K [.code Lr] (An args) E σ):AR Tryz.prog 171 args σ K:=
 AW (cx:=E3) (code:=Tryz.f171.body.getD .skip) Ly (by kernel_rfl) Tryz.ntmps171 hl (AY E3 _ (As Lr) _ [] (by kernel_rfl)) h
def Kc:C:=(.seq (.reg [Qo 2 (.mv (.c (.d (.str []))))] [0])
 (.seq (.seq (.reg [Qm 3 0,
 Qo 4 (.call 65 [(.t 3),(.c (.d (.str [95])))])] [0,4])
 (.cond (.t 4) (.seq (.reg [Qo 2 (.mv (.c (.d (.str []))))] [2])
 .ret)
 .skip))
 (.seq (.reg [Qm 5 0,
 Qo 6 (.call 126 [(.t 5)]),
 Qm 2 6] [2])
 .ret)))
noncomputable def Dz:Cx:=⟨Tryz.prog,172,Tryz.f172,7,[],[],[.t 2]⟩
theorem HD:Good Dz:=⟨Tryz.func172,by kernel_rfl⟩
theorem RA:Dz.rs=[.t 2]:=rfl
theorem Rm (hl:args.length≤7) (h:Run Dz K [.code Kc] (An args) E σ):AR Tryz.prog 172 args σ K:=
 AW (cx:=Dz) (code:=Tryz.f172.body.getD .skip) HD (by kernel_rfl) Tryz.ntmps172 hl (AY Dz _ (As Kc) _ [] (by kernel_rfl)) h
def Kd:C:=(.seq (.reg [Qo 2 (.al [(.d (.int .i64 0)),(.d (.str [])),(.d (.int .i64 0)),.AX,.AX,.AX] false)] [0,2])
 (.seq (.reg [Qm 5 0,
 Qo 6 (.call 186 [(.t 5)]),
 Qo 3 (.al [(.d (.int .i64 0)),(.d (.str [])),(.d (.int .i64 0)),.AX,.AX,.AX] false),
 ⟨none,.st (.t 3) (.t 6) 6,none⟩] [0,2,3])
 (.seq (.seq (.reg [Qm 7 0,
 Qo 8 (.call 187 [(.t 7),(.c (.d (.int .i64 1)))]),
 Qm 4 8] [0,2,3,4])
 (.seq (.reg [Qm 9 4,
 Qo 10 (.bin .neq (.t 9) (.c (.d (.int .i64 0))))] [0,2,3,4,10])
 (.cond (.t 10) (.seq (.reg [Qm 11 4,
 Qo 12 (.ldl (.t 3) (some 6)),
 Qm 13 0,
 Qo 14 (.call 186 [(.t 13)]),
 Qo 15 (.call 188 [(.t 11),(.t 12),(.t 14)]),
 ⟨none,.st (.t 2) (.t 15) 6,none⟩] [2])
 .ret)
 .skip)))
 (.seq (.reg [Qo 16 (.ldl (.t 3) (some 6)),
 ⟨none,.st (.t 2) (.t 16) 6,none⟩] [2])
 .ret))))
noncomputable def EA:Cx:=⟨Tryz.prog,173,Tryz.f173,17,[300012,300016],[],[.c 2 (some 6)]⟩
theorem HF:Good EA:=⟨Tryz.func173,by kernel_rfl⟩
theorem RB:EA.rs=[.c 2 (some 6)]:=rfl
theorem Rn (hl:args.length≤17) (h:Run EA K [.code Kd] (An args) E σ):AR Tryz.prog 173 args σ K:=
 AW (cx:=EA) (code:=Tryz.f173.body.getD .skip) HF (by kernel_rfl) Tryz.ntmps173 hl (AY EA _ (As Kd) _ [] (by kernel_rfl)) h
def OB:C:=(.seq (.seq (.reg [Qm 11 0,
 Qm 12 1,
 Qo 13 (.call 65 [(.t 11),(.t 12)])] [0,1,2,7,13])
 (.cond (.t 13) .skip
 (.exit 0)))
 (.block 1 (.reg [Qm 14 7,
 Qm 15 2,
 Qo 16 (.ER (.t 15) []),
 Qo 17 (.bsl 1 1 [(.d (.str []))] [(0,1,(.t 16))]),
 Qo 18 (.app 9 1 16 (.t 14) (.t 17)),
 Qm 7 18] [0,1,2,7])))
def Jd:C:=(.seq (.reg [Qo 6 (.mv (.c .AX))] [0,1,2])
 (.seq (.reg [Qm 8 2,
 Qo 9 (.ER (.t 8) []),
 Qo 10 (.Me 9 1 1 [(.d (.str []))] [(0,1,(.t 9))]),
 Qm 7 10] [0,1,2,7])
 (.seq (.block 0 (.loop OB))
 (.seq (.reg [Qm 19 7,
 Qm 6 19] [6])
 .ret))))
noncomputable def D6:Cx:=⟨Tryz.prog,182,Tryz.f182,20,[10],[],[.t 6]⟩
theorem Jo:Good D6:=⟨Tryz.func182,by kernel_rfl⟩
theorem QJ:D6.rs=[.t 6]:=rfl
theorem Qk (hl:args.length≤20) (h:Run D6 K [.code Jd] (An args) E σ):AR Tryz.prog 182 args σ K:=
 AW (cx:=D6) (code:=Tryz.f182.body.getD .skip) Jo (by kernel_rfl) Tryz.ntmps182 hl (AY D6 _ (As Jd) _ [] (by kernel_rfl)) h
def GP:C:=(.seq (.reg [Qo 4 (.mv (.c .AX))] [0,1])
 (.seq (.reg [Qm 6 0,
 Qm 7 1,
 Qo 8 (.call 196 [(.t 6),(.c (.d (.str [44]))),(.t 7)]),
 Qm 5 8] [0,5])
 (.seq (.reg [Qm 9 0,
 Qo 10 (.call 127 [(.t 9),(.c (.d (.str [41])))])] [5])
 (.seq (.reg [Qm 11 5,
 Qm 4 11] [4])
 .ret))))
noncomputable def Bv:Cx:=⟨Tryz.prog,183,Tryz.f183,12,[],[],[.t 4]⟩
theorem GS:Good Bv:=⟨Tryz.func183,by kernel_rfl⟩
theorem LM:Bv.rs=[.t 4]:=rfl
theorem Lb (hl:args.length≤12) (h:Run Bv K [.code GP] (An args) E σ):AR Tryz.prog 183 args σ K:=
 AW (cx:=Bv) (code:=Tryz.f183.body.getD .skip) GS (by kernel_rfl) Tryz.ntmps183 hl (AY Bv _ (As GP) _ [] (by kernel_rfl)) h
def IX:C:=(.seq (.reg [Qo 4 (.al [(.d (.int .i64 0)),(.d (.str [])),.AX] false)] [0,1,4])
 (.seq (.reg [Qm 6 0,
 Qo 7 (.call 127 [(.t 6),(.c (.d (.str [40])))])] [0,1,4])
 (.seq (.reg [Qm 8 0,
 Qo 9 (.call 168 [(.t 8)]),
 Qo 5 (.al [(.d (.int .i64 0)),(.d (.str [])),.AX] false),
 ⟨none,.st (.t 5) (.t 9) 3,none⟩] [0,1,4,5])
 (.seq (.reg [Qm 10 0,
 Qo 11 (.call 127 [(.t 10),(.c (.d (.str [41])))])] [1,4,5])
 (.seq (.reg [Qm 12 1,
 Qo 13 (.ldl (.t 5) (some 3)),
 Qo 14 (.bsl 3 1 [(.d (.int .i64 0)),(.d (.str [])),.AX] [(0,3,(.t 13))]),
 Qo 15 (.bld [(.d (.int .i64 0)),(.d (.str [])),.AX] [(0,1,(.t 12)),(2,1,(.t 14))]),
 ⟨none,.st (.t 4) (.t 15) 3,none⟩] [4])
 .ret)))))
noncomputable def Cv:Cx:=⟨Tryz.prog,184,Tryz.f184,16,[300013],[],[.c 4 (some 3)]⟩
theorem I4:Good Cv:=⟨Tryz.func184,by kernel_rfl⟩
theorem OQ:Cv.rs=[.c 4 (some 3)]:=rfl
theorem Of (hl:args.length≤16) (h:Run Cv K [.code IX] (An args) E σ):AR Tryz.prog 184 args σ K:=
 AW (cx:=Cv) (code:=Tryz.f184.body.getD .skip) I4 (by kernel_rfl) Tryz.ntmps184 hl (AY Cv _ (As IX) _ [] (by kernel_rfl)) h
def GO:C:=(.seq (.reg [Qo 4 (.mv (.c .AX))] [0,1])
 (.seq (.seq (.reg [Qm 5 0,
 Qo 6 (.call 65 [(.t 5),(.c (.d (.str [41])))])] [0,1,6])
 (.cond (.t 6) (.seq (.reg [Qo 4 (.mv (.c .AX))] [4])
 .ret)
 .skip))
 (.seq (.reg [Qm 7 0,
 Qm 8 1,
 Qo 9 (.call 183 [(.t 7),(.t 8)]),
 Qm 4 9] [4])
 .ret)))
noncomputable def Bu:Cx:=⟨Tryz.prog,185,Tryz.f185,10,[],[],[.t 4]⟩
theorem ET:Good Bu:=⟨Tryz.func185,by kernel_rfl⟩
theorem LL:Bu.rs=[.t 4]:=rfl
theorem La (hl:args.length≤10) (h:Run Bu K [.code GO] (An args) E σ):AR Tryz.prog 185 args σ K:=
 AW (cx:=Bu) (code:=Tryz.f185.body.getD .skip) ET (by kernel_rfl) Tryz.ntmps185 hl (AY Bu _ (As GO) _ [] (by kernel_rfl)) h
def P6:C:=(.seq (.seq (.reg [Qm 9 4,
 Qo 10 (.bin .neq (.t 9) (.c (.d (.int .i64 0))))] [0,2,3,4,10])
 (.cond (.t 10) .skip
 (.exit 0)))
 (.seq (.block 1 (.reg [Qm 13 4,
 Qo 14 (.ldl (.t 3) (some 6)),
 Qm 15 0,
 Qo 16 (.call 197 [(.t 15)]),
 Qo 17 (.call 188 [(.t 13),(.t 14),(.t 16)]),
 ⟨none,.st (.t 3) (.t 17) 6,none⟩] [0,2,3]))
 (.reg [Qm 11 0,
 Qo 12 (.call 187 [(.t 11),(.c (.d (.int .i64 2)))]),
 Qm 4 12] [0,2,3,4])))
def Lw:C:=(.seq (.reg [Qo 2 (.al [(.d (.int .i64 0)),(.d (.str [])),(.d (.int .i64 0)),.AX,.AX,.AX] false)] [0,2])
 (.seq (.reg [Qm 5 0,
 Qo 6 (.call 197 [(.t 5)]),
 Qo 3 (.al [(.d (.int .i64 0)),(.d (.str [])),(.d (.int .i64 0)),.AX,.AX,.AX] false),
 ⟨none,.st (.t 3) (.t 6) 6,none⟩] [0,2,3])
 (.seq (.seq (.reg [Qm 7 0,
 Qo 8 (.call 187 [(.t 7),(.c (.d (.int .i64 2)))]),
 Qm 4 8] [0,2,3,4])
 (.block 0 (.loop P6)))
 (.seq (.reg [Qo 18 (.ldl (.t 3) (some 6)),
 ⟨none,.st (.t 2) (.t 18) 6,none⟩] [2])
 .ret))))
noncomputable def E7:Cx:=⟨Tryz.prog,186,Tryz.f186,19,[300014,300018],[],[.c 2 (some 6)]⟩
theorem MD:Good E7:=⟨Tryz.func186,by kernel_rfl⟩
theorem SX:E7.rs=[.c 2 (some 6)]:=rfl
theorem TD (hl:args.length≤19) (h:Run E7 K [.code Lw] (An args) E σ):AR Tryz.prog 186 args σ K:=
 AW (cx:=E7) (code:=Tryz.f186.body.getD .skip) MD (by kernel_rfl) Tryz.ntmps186 hl (AY E7 _ (As Lw) _ [] (by kernel_rfl)) h
def ML:C:=(.seq (.seq (.reg [Qm 6 5,
 Qo 7 (.bin .leq (.t 6) (.c (.d (.int .i64 8))))] [0,1,5,7])
 (.cond (.t 7) .skip
 (.exit 0)))
 (.seq (.block 1 (.seq (.reg [Qm 10 5,
 Qo 11 (.call 138 [(.t 10)]),
 Qm 12 1,
 Qo 13 (.bin .eql (.t 11) (.t 12)),
 Qm 14 13,
 ⟨some 15,.mv (.t 0),some (14,true)⟩,
 ⟨some 16,.mv (.t 5),some (14,true)⟩,
 ⟨some 17,.call 91 [(.t 16)],some (14,true)⟩,
 ⟨some 18,.call 65 [(.t 15),(.t 17)],some (14,true)⟩,
 Qo 19 (.pick (.t 14) (.t 18) (.c (.d (.bool false))))] [0,1,5,19])
 (.cond (.t 19) (.seq (.reg [Qm 20 5,
 Qm 4 20] [4])
 .ret)
 .skip)))
 (.reg [Qm 8 5,
 Qo 9 (.bin .add (.t 8) (.c (.d (.int .i64 1)))),
 Qm 5 9] [0,1,5])))
def Hn:C:=(.seq (.reg [Qo 4 (.mv (.c (.d (.int .i64 0))))] [0,1])
 (.seq (.seq (.reg [Qo 5 (.mv (.c (.d (.int .i64 1))))] [0,1,5])
 (.block 0 (.loop ML)))
 (.seq (.reg [Qo 4 (.mv (.c (.d (.int .i64 0))))] [4])
 .ret)))
noncomputable def Cm:Cx:=⟨Tryz.prog,187,Tryz.f187,21,[],[],[.t 4]⟩
theorem FR:Good Cm:=⟨Tryz.func187,by kernel_rfl⟩
theorem Ng:Cm.rs=[.t 4]:=rfl
theorem OJ (hl:args.length≤21) (h:Run Cm K [.code Hn] (An args) E σ):AR Tryz.prog 187 args σ K:=
 AW (cx:=Cm) (code:=Tryz.f187.body.getD .skip) FR (by kernel_rfl) Tryz.ntmps187 hl (AY Cm _ (As Hn) _ [] (by kernel_rfl)) h
def Q0:C:=(.seq (.reg [Qo 4 (.box (.t 1) false),
 Qo 5 (.box (.t 2) false),
 Qo 6 (.al [(.d (.int .i64 0)),(.d (.str [])),(.d (.int .i64 0)),.AX,.AX,.AX] false)] [0,4,5,6])
 (.seq (.reg [Qm 7 0,
 Qo 8 (.ldl (.t 4) (some 6)),
 Qo 9 (.ldl (.t 5) (some 6)),
 Qo 10 (.bsl 6 2 [(.d (.int .i64 0)),(.d (.str [])),(.d (.int .i64 0)),.AX,.AX,.AX,(.d (.int .i64 0)),(.d (.str [])),(.d (.int .i64 0)),.AX,.AX,.AX] [(0,6,(.t 8)),(6,6,(.t 9))]),
 Qo 11 (.bld [(.d (.int .i64 0)),(.d (.str [])),(.d (.int .i64 0)),.AX,.AX,.AX] [(0,1,(.c (.d (.int .i64 13)))),(2,1,(.t 7)),(4,1,(.t 10))]),
 ⟨none,.st (.t 6) (.t 11) 6,none⟩] [6])
 .ret))
noncomputable def GZ:Cx:=⟨Tryz.prog,188,Tryz.f188,12,[300008,300009],[],[.c 6 (some 6)]⟩
theorem Q5:Good GZ:=⟨Tryz.func188,by kernel_rfl⟩
theorem Vr:GZ.rs=[.c 6 (some 6)]:=rfl
theorem Wc (hl:args.length≤12) (h:Run GZ K [.code Q0] (An args) E σ):AR Tryz.prog 188 args σ K:=
 AW (cx:=GZ) (code:=Tryz.f188.body.getD .skip) Q5 (by kernel_rfl) Tryz.ntmps188 hl (AY GZ _ (As Q0) _ [] (by kernel_rfl)) h
def Jz:C:=(.seq (.seq (.reg [Qm 11 0,
 Qm 12 1,
 Qo 13 (.call 65 [(.t 11),(.t 12)])] [0,1,2,7,13])
 (.cond (.t 13) .skip
 (.exit 0)))
 (.block 1 (.reg [Qm 14 7,
 Qm 15 2,
 Qo 16 (.ER (.t 15) []),
 Qo 17 (.bsl 3 1 [(.d (.int .i64 0)),(.d (.str [])),.AX] [(0,3,(.t 16))]),
 Qo 18 (.app 75 3 48 (.t 14) (.t 17)),
 Qm 7 18] [0,1,2,7])))
def Gc:C:=(.seq (.reg [Qo 6 (.mv (.c .AX))] [0,1,2])
 (.seq (.reg [Qm 8 2,
 Qo 9 (.ER (.t 8) []),
 Qo 10 (.Me 75 3 1 [(.d (.int .i64 0)),(.d (.str [])),.AX] [(0,3,(.t 9))]),
 Qm 7 10] [0,1,2,7])
 (.seq (.block 0 (.loop Jz))
 (.seq (.reg [Qm 19 7,
 Qm 6 19] [6])
 .ret))))
noncomputable def CH:Cx:=⟨Tryz.prog,196,Tryz.f196,20,[10],[],[.t 6]⟩
theorem Gg:Good CH:=⟨Tryz.func196,by kernel_rfl⟩
theorem Lj:CH.rs=[.t 6]:=rfl
theorem MS (hl:args.length≤20) (h:Run CH K [.code Gc] (An args) E σ):AR Tryz.prog 196 args σ K:=
 AW (cx:=CH) (code:=Tryz.f196.body.getD .skip) Gg (by kernel_rfl) Tryz.ntmps196 hl (AY CH _ (As Gc) _ [] (by kernel_rfl)) h
def O6:C:=(.seq (.seq (.reg [Qm 9 4,
 Qo 10 (.bin .neq (.t 9) (.c (.d (.int .i64 0))))] [0,2,3,4,10])
 (.cond (.t 10) .skip
 (.exit 0)))
 (.seq (.block 1 (.reg [Qm 13 4,
 Qo 14 (.ldl (.t 3) (some 6)),
 Qm 15 0,
 Qo 16 (.call 204 [(.t 15)]),
 Qo 17 (.call 188 [(.t 13),(.t 14),(.t 16)]),
 ⟨none,.st (.t 3) (.t 17) 6,none⟩] [0,2,3]))
 (.reg [Qm 11 0,
 Qo 12 (.call 187 [(.t 11),(.c (.d (.int .i64 3)))]),
 Qm 4 12] [0,2,3,4])))
def Kk:C:=(.seq (.reg [Qo 2 (.al [(.d (.int .i64 0)),(.d (.str [])),(.d (.int .i64 0)),.AX,.AX,.AX] false)] [0,2])
 (.seq (.reg [Qm 5 0,
 Qo 6 (.call 204 [(.t 5)]),
 Qo 3 (.al [(.d (.int .i64 0)),(.d (.str [])),(.d (.int .i64 0)),.AX,.AX,.AX] false),
 ⟨none,.st (.t 3) (.t 6) 6,none⟩] [0,2,3])
 (.seq (.seq (.reg [Qm 7 0,
 Qo 8 (.call 187 [(.t 7),(.c (.d (.int .i64 3)))]),
 Qm 4 8] [0,2,3,4])
 (.block 0 (.loop O6)))
 (.seq (.reg [Qo 18 (.ldl (.t 3) (some 6)),
 ⟨none,.st (.t 2) (.t 18) 6,none⟩] [2])
 .ret))))
noncomputable def EI:Cx:=⟨Tryz.prog,197,Tryz.f197,19,[300014,300018],[],[.c 2 (some 6)]⟩
theorem LA:Good EI:=⟨Tryz.func197,by kernel_rfl⟩
theorem RL:EI.rs=[.c 2 (some 6)]:=rfl
theorem Ru (hl:args.length≤19) (h:Run EI K [.code Kk] (An args) E σ):AR Tryz.prog 197 args σ K:=
 AW (cx:=EI) (code:=Tryz.f197.body.getD .skip) LA (by kernel_rfl) Tryz.ntmps197 hl (AY EI _ (As Kk) _ [] (by kernel_rfl)) h
def Iz:C:=(.seq (.seq (.reg [Qm 6 0,
 Qo 7 (.call 65 [(.t 6),(.c (.d (.str [40])))])] [0,2,3,7])
 (.cond (.t 7) .skip
 (.exit 0)))
 (.block 1 (.SO (.one (Qo 8 (.ldl (.t 3) (some 6)))
 (.one (Qm 10 0)
 (.one (Qm 11 0)
 (.one (Qo 12 (.mkf 131 [(.t 11)] []))
 (.alt (Qo 9 (.Me 44 6 1 [(.d (.int .i64 0)),(.d (.str [])),(.d (.int .i64 0)),.AX,.AX,.AX] [(0,6,(.t 8))]))
 (.one (Qo 13 (.call 208 [(.t 10),(.t 12)]))
 (.one (Qo 14 (.app 44 6 104 (.t 9) (.t 13)))
 (.one (Qo 15 (.bld [(.d (.int .i64 0)),(.d (.str [])),(.d (.int .i64 0)),.AX,.AX,.AX] [(0,1,(.c (.d (.int .i64 12)))),(4,1,(.t 14))]))
 (.one ⟨none,.st (.t 3) (.t 15) 6,none⟩
 .done))))
 (.alt (Qo 13 (.call 208 [(.t 10),(.t 12)]))
 (.one (Qo 9 (.Me 44 6 1 [(.d (.int .i64 0)),(.d (.str [])),(.d (.int .i64 0)),.AX,.AX,.AX] [(0,6,(.t 8))]))
 (.one (Qo 14 (.app 44 6 104 (.t 9) (.t 13)))
 (.one (Qo 15 (.bld [(.d (.int .i64 0)),(.d (.str [])),(.d (.int .i64 0)),.AX,.AX,.AX] [(0,1,(.c (.d (.int .i64 12)))),(4,1,(.t 14))]))
 (.one ⟨none,.st (.t 3) (.t 15) 6,none⟩
 .done))))
 .done)))))) [0,2,3])))
def Sv:C:=(.seq (.reg [Qo 2 (.al [(.d (.int .i64 0)),(.d (.str [])),(.d (.int .i64 0)),.AX,.AX,.AX] false)] [0,2])
 (.seq (.reg [Qm 4 0,
 Qo 5 (.call 207 [(.t 4)]),
 Qo 3 (.al [(.d (.int .i64 0)),(.d (.str [])),(.d (.int .i64 0)),.AX,.AX,.AX] false),
 ⟨none,.st (.t 3) (.t 5) 6,none⟩] [0,2,3])
 (.seq (.block 0 (.loop Iz))
 (.seq (.reg [Qo 16 (.ldl (.t 3) (some 6)),
 ⟨none,.st (.t 2) (.t 16) 6,none⟩] [2])
 .ret))))
def TQ:List (List Nat×PT):=[([0,2],.done),([0,2,3],.done),([0,2,3,7],.done),([0,2,3],(.one 0 (.one 2 (.one 3 (.one 4 (.alt 1 (.one 5 (.one 6 (.one 7 (.one 8 .done)))) (.alt 5 (.one 1 (.one 6 (.one 7 (.one 8 .done)))) .done))))))),([2],.done)]
noncomputable def DX:Cx:=⟨Tryz.prog,204,Tryz.f204,17,[9,300008,300016],[],[.c 2 (some 6)]⟩
theorem MA:Good DX:=⟨Tryz.func204,by kernel_rfl⟩
theorem SR:DX.rs=[.c 2 (some 6)]:=rfl
theorem Sz (hl:args.length≤17) (h:Run DX K [.code Sv] (An args) E σ):AR Tryz.prog 204 args σ K:=
 AW (cx:=DX) (code:=Tryz.f204.body.getD .skip) MA (by kernel_rfl) Tryz.ntmps204 hl (AY DX _ TQ _ [] (by kernel_rfl)) h
def O5:C:=(.seq (.seq (.reg [Qm 68 5,
 Qo 69 (.bin .leq (.t 68) (.c (.d (.int .i64 7))))] [0,2,5,69])
 (.cond (.t 69) .skip
 (.exit 1)))
 (.seq (.block 2 (.seq (.reg [Qm 73 5,
 Qo 74 (.call 147 [(.t 73)]),
 Qm 72 74,
 Qo 75 (.ext (.t 72) 0),
 Qo 76 (.ext (.t 72) 1),
 Qm 6 75,
 Qm 7 76] [0,2,5,6,7])
 (.seq (.reg [Qm 77 0,
 Qm 78 6,
 Qo 79 (.call 65 [(.t 77),(.t 78)])] [0,2,5,7,79])
 (.cond (.t 79) (.seq (.reg [Qm 80 5,
 Qm 81 0,
 Qm 82 7,
 Qo 83 (.call 213 [(.t 81),(.t 82)]),
 Qo 84 (.bld [(.d (.int .i64 0)),(.d (.str [])),(.d (.int .i64 0)),.AX,.AX,.AX] [(0,1,(.c (.d (.int .i64 14)))),(2,1,(.t 80)),(4,1,(.t 83))]),
 ⟨none,.st (.t 2) (.t 84) 6,none⟩] [2])
 .ret)
 .skip))))
 (.reg [Qm 70 5,
 Qo 71 (.bin .add (.t 70) (.c (.d (.int .i64 1)))),
 Qm 5 71] [0,2,5])))
def Kj:C:=(.seq (.reg [Qo 2 (.al [(.d (.int .i64 0)),(.d (.str [])),(.d (.int .i64 0)),.AX,.AX,.AX] false)] [0,2])
 (.seq (.seq (.reg [Qm 8 0,
 Qo 9 (.call 64 [(.t 8)]),
 Qo 3 (.al [(.d (.int .i64 0)),(.d (.str [])),(.d (.int .i64 0))] false),
 ⟨none,.st (.t 3) (.t 9) 3,none⟩] [0,2,3])
 (.block 0 (.seq (.reg [Qo 11 (.fld (.t 3) 0),
 Qo 12 (.ldl (.t 11) none),
 Qo 13 (.bin .eql (.t 12) (.c (.d (.int .i64 3)))),
 Qm 10 13] [0,2,3,10])
 (.cond (.t 10) (.seq (.reg [Qm 14 0,
 Qo 15 (.call 209 [(.t 14)]),
 Qo 16 (.bld [(.d (.int .i64 0)),(.d (.str [])),(.d (.int .i64 0)),.AX,.AX,.AX] [(0,1,(.c (.d (.int .i64 3)))),(2,1,(.t 15))]),
 ⟨none,.st (.t 2) (.t 16) 6,none⟩] [2])
 .ret)
 (.seq (.reg [Qo 18 (.fld (.t 3) 0),
 Qo 19 (.ldl (.t 18) none),
 Qo 20 (.bin .eql (.t 19) (.c (.d (.int .i64 1)))),
 Qm 17 20] [0,2,3,17])
 (.cond (.t 17) (.seq (.reg [Qm 21 0,
 Qo 22 (.call 126 [(.t 21)]),
 Qo 23 (.bld [(.d (.int .i64 0)),(.d (.str [])),(.d (.int .i64 0)),.AX,.AX,.AX] [(0,1,(.c (.d (.int .i64 4)))),(1,1,(.t 22))]),
 ⟨none,.st (.t 2) (.t 23) 6,none⟩] [2])
 .ret)
 (.seq (.reg [Qo 25 (.fld (.t 3) 0),
 Qo 26 (.ldl (.t 25) none),
 Qo 27 (.bin .eql (.t 26) (.c (.d (.int .i64 2)))),
 Qm 24 27] [0,2,24])
 (.cond (.t 24) (.seq (.reg [Qm 28 0,
 Qo 29 (.call 124 [(.t 28),(.c (.d (.int .i64 2)))]),
 Qo 30 (.bld [(.d (.int .i64 0)),(.d (.str [])),(.d (.int .i64 0)),.AX,.AX,.AX] [(0,1,(.c (.d (.int .i64 6)))),(1,1,(.t 29))]),
 Qo 4 (.al [(.d (.int .i64 0)),(.d (.str [])),(.d (.int .i64 0)),.AX,.AX,.AX] false),
 ⟨none,.st (.t 4) (.t 30) 6,none⟩] [0,2,4])
 (.seq (.reg [Qm 31 0,
 Qm 32 0,
 Qo 33 (.mkf 131 [(.t 32)] []),
 Qo 34 (.call 210 [(.t 31),(.t 33)]),
 Qo 35 (.fld (.t 4) 4),
 ⟨none,.st (.t 35) (.t 34) 1,none⟩] [2,4])
 (.seq (.reg [Qo 36 (.ldl (.t 4) (some 6)),
 ⟨none,.st (.t 2) (.t 36) 6,none⟩] [2])
 .ret)))
 (.seq (.reg [Qm 38 0,
 Qo 39 (.call 65 [(.t 38),(.c (.d (.str [45])))]),
 Qm 37 39] [0,2,37])
 (.cond (.t 37) (.seq (.reg [Qm 40 0,
 Qo 41 (.call 209 [(.t 40)]),
 Qo 42 (.un .neg (.t 41)),
 Qo 43 (.bld [(.d (.int .i64 0)),(.d (.str [])),(.d (.int .i64 0)),.AX,.AX,.AX] [(0,1,(.c (.d (.int .i64 3)))),(2,1,(.t 42))]),
 ⟨none,.st (.t 2) (.t 43) 6,none⟩] [2])
 .ret)
 (.seq (.reg [Qm 45 0,
 Qo 46 (.call 65 [(.t 45),(.c (.d (.str [116,114,117,101])))]),
 Qm 44 46] [0,2,44])
 (.cond (.t 44) (.seq (.reg [Qo 47 (.bld [(.d (.int .i64 0)),(.d (.str [])),(.d (.int .i64 0)),.AX,.AX,.AX] [(0,1,(.c (.d (.int .i64 2)))),(2,1,(.c (.d (.int .i64 1))))]),
 ⟨none,.st (.t 2) (.t 47) 6,none⟩] [2])
 .ret)
 (.seq (.reg [Qm 49 0,
 Qo 50 (.call 65 [(.t 49),(.c (.d (.str [102,97,108,115,101])))]),
 Qm 48 50] [0,2,48])
 (.cond (.t 48) (.seq (.reg [Qo 51 (.bld [(.d (.int .i64 0)),(.d (.str [])),(.d (.int .i64 0)),.AX,.AX,.AX] [(0,1,(.c (.d (.int .i64 2))))]),
 ⟨none,.st (.t 2) (.t 51) 6,none⟩] [2])
 .ret)
 (.seq (.reg [Qm 53 0,
 Qo 54 (.call 65 [(.t 53),(.c (.d (.str [40])))]),
 Qm 52 54] [0,2,52])
 (.cond (.t 52) (.seq (.reg [Qm 55 0,
 Qo 56 (.call 211 [(.t 55)]),
 ⟨none,.st (.t 2) (.t 56) 6,none⟩] [2])
 .ret)
 (.seq (.reg [Qm 58 0,
 Qo 59 (.call 65 [(.t 58),(.c (.d (.str [116,105,99,107])))]),
 Qm 57 59] [0,2,57])
 (.cond (.t 57) (.seq (.reg [Qm 60 0,
 Qo 61 (.call 212 [(.t 60)]),
 ⟨none,.st (.t 2) (.t 61) 6,none⟩] [2])
 .ret)
 (.seq (.reg [Qm 63 0,
 Qo 64 (.call 65 [(.t 63),(.c (.d (.str [114,97,105,115,101])))]),
 Qm 62 64] [0,2,62])
 (.cond (.t 62) (.seq (.reg [Qm 65 0,
 Qo 66 (.call 213 [(.t 65),(.c (.d (.int .i64 1)))]),
 Qo 67 (.bld [(.d (.int .i64 0)),(.d (.str [])),(.d (.int .i64 0)),.AX,.AX,.AX] [(0,1,(.c (.d (.int .i64 16)))),(4,1,(.t 66))]),
 ⟨none,.st (.t 2) (.t 67) 6,none⟩] [2])
 .ret)
 .skip))))))))))))))))))))
 (.seq (.seq (.reg [Qo 5 (.mv (.c (.d (.int .i64 1))))] [0,2,5])
 (.block 1 (.loop O5)))
 (.seq (.reg [Qm 85 0,
 Qo 86 (.call 68 [(.t 85)])] [2])
 (.seq (.reg [Qo 87 (.bld [(.d (.int .i64 0)),(.d (.str [])),(.d (.int .i64 0)),.AX,.AX,.AX] []),
 ⟨none,.st (.t 2) (.t 87) 6,none⟩] [2])
 .ret)))))
noncomputable def EH:Cx:=⟨Tryz.prog,207,Tryz.f207,88,[300012,300019,300026,300036],[],[.c 2 (some 6)]⟩
theorem BM:Good EH:=⟨Tryz.func207,by kernel_rfl⟩
theorem RK:EH.rs=[.c 2 (some 6)]:=rfl
theorem Rt (hl:args.length≤88) (h:Run EH K [.code Kj] (An args) E σ):AR Tryz.prog 207 args σ K:=
 AW (cx:=EH) (code:=Tryz.f207.body.getD .skip) BM (by kernel_rfl) Tryz.ntmps207 hl (AY EH _ (As Kj) _ [] (by kernel_rfl)) h
def Hj:C:=(.seq (.reg [Qo 4 (.mv (.c .AX))] [0,1])
 (.seq (.seq (.reg [Qm 5 0,
 Qo 6 (.call 65 [(.t 5),(.c (.d (.str [41])))])] [0,1,6])
 (.cond (.t 6) (.seq (.reg [Qo 4 (.mv (.c .AX))] [4])
 .ret)
 .skip))
 (.seq (.reg [Qm 7 0,
 Qm 8 1,
 Qo 9 (.call 214 [(.t 7),(.t 8)]),
 Qm 4 9] [4])
 .ret)))
noncomputable def Ci:Cx:=⟨Tryz.prog,208,Tryz.f208,10,[],[],[.t 4]⟩
theorem FO:Good Ci:=⟨Tryz.func208,by kernel_rfl⟩
theorem Nb:Ci.rs=[.t 4]:=rfl
theorem OF (hl:args.length≤10) (h:Run Ci K [.code Hj] (An args) E σ):AR Tryz.prog 208 args σ K:=
 AW (cx:=Ci) (code:=Tryz.f208.body.getD .skip) FO (by kernel_rfl) Tryz.ntmps208 hl (AY Ci _ (As Hj) _ [] (by kernel_rfl)) h
def JB:C:=(.seq (.reg [Qo 2 (.mv (.c (.d (.int .i64 0))))] [0])
 (.seq (.reg [Qm 6 0,
 Qo 7 (.call 124 [(.t 6),(.c (.d (.int .i64 3)))]),
 Qo 8 (.call 215 [(.t 7),(.c (.d (.int .i64 10))),(.c (.d (.int .i64 64)))]),
 Qm 5 8,
 Qo 9 (.ext (.t 5) 0),
 Qo 10 (.ext (.t 5) 1),
 Qm 3 9,
 Qm 4 10] [3])
 (.seq (.reg [Qm 11 3,
 Qm 2 11] [2])
 .ret)))
noncomputable def DS:Cx:=⟨Tryz.prog,209,Tryz.f209,12,[],[],[.t 2]⟩
theorem JK:Good DS:=⟨Tryz.func209,by kernel_rfl⟩
theorem PH:DS.rs=[.t 2]:=rfl
theorem Pu (hl:args.length≤12) (h:Run DS K [.code JB] (An args) E σ):AR Tryz.prog 209 args σ K:=
 AW (cx:=DS) (code:=Tryz.f209.body.getD .skip) JK (by kernel_rfl) Tryz.ntmps209 hl (AY DS _ (As JB) _ [] (by kernel_rfl)) h
def Hl:C:=(.seq (.reg [Qo 4 (.mv (.c .AX))] [0,1])
 (.seq (.seq (.reg [Qm 5 0,
 Qo 6 (.call 65 [(.t 5),(.c (.d (.str [40])))]),
 Qo 7 (.un .not (.t 6))] [0,1,7])
 (.cond (.t 7) (.seq (.reg [Qo 4 (.mv (.c .AX))] [4])
 .ret)
 .skip))
 (.seq (.reg [Qm 8 0,
 Qm 9 1,
 Qo 10 (.call 214 [(.t 8),(.t 9)]),
 Qm 4 10] [4])
 .ret)))
noncomputable def Ck:Cx:=⟨Tryz.prog,210,Tryz.f210,11,[],[],[.t 4]⟩
theorem FP:Good Ck:=⟨Tryz.func210,by kernel_rfl⟩
theorem Nd:Ck.rs=[.t 4]:=rfl
theorem OH (hl:args.length≤11) (h:Run Ck K [.code Hl] (An args) E σ):AR Tryz.prog 210 args σ K:=
 AW (cx:=Ck) (code:=Tryz.f210.body.getD .skip) FP (by kernel_rfl) Tryz.ntmps210 hl (AY Ck _ (As Hl) _ [] (by kernel_rfl)) h
def MM:C:=(.seq (.reg [Qo 2 (.al [(.d (.int .i64 0)),(.d (.str [])),(.d (.int .i64 0)),.AX,.AX,.AX] false)] [0,2])
 (.seq (.seq (.reg [Qm 4 0,
 Qo 5 (.call 65 [(.t 4),(.c (.d (.str [41])))])] [0,2,5])
 (.cond (.t 5) (.seq (.reg [Qo 6 (.bld [(.d (.int .i64 0)),(.d (.str [])),(.d (.int .i64 0)),.AX,.AX,.AX] [(0,1,(.c (.d (.int .i64 1))))]),
 ⟨none,.st (.t 2) (.t 6) 6,none⟩] [2])
 .ret)
 .skip))
 (.seq (.reg [Qm 7 0,
 Qo 8 (.call 131 [(.t 7)]),
 Qo 3 (.al [(.d (.int .i64 0)),(.d (.str [])),(.d (.int .i64 0)),.AX,.AX,.AX] false),
 ⟨none,.st (.t 3) (.t 8) 6,none⟩] [0,2,3])
 (.seq (.seq (.reg [Qm 9 0,
 Qo 10 (.call 65 [(.t 9),(.c (.d (.str [41])))])] [0,2,3,10])
 (.cond (.t 10) (.seq (.reg [Qo 11 (.ldl (.t 3) (some 6)),
 ⟨none,.st (.t 2) (.t 11) 6,none⟩] [2])
 .ret)
 .skip))
 (.seq (.reg [Qm 12 0,
 Qo 13 (.call 127 [(.t 12),(.c (.d (.str [44])))])] [0,2,3])
 (.seq (.SO (.one (Qo 14 (.ldl (.t 3) (some 6)))
 (.one (Qm 16 0)
 (.one (Qm 17 0)
 (.one (Qo 18 (.mkf 131 [(.t 17)] []))
 (.alt (Qo 15 (.Me 44 6 1 [(.d (.int .i64 0)),(.d (.str [])),(.d (.int .i64 0)),.AX,.AX,.AX] [(0,6,(.t 14))]))
 (.one (Qo 19 (.call 214 [(.t 16),(.t 18)]))
 (.one (Qo 20 (.app 44 6 104 (.t 15) (.t 19)))
 (.one (Qo 21 (.bld [(.d (.int .i64 0)),(.d (.str [])),(.d (.int .i64 0)),.AX,.AX,.AX] [(0,1,(.c (.d (.int .i64 5)))),(4,1,(.t 20))]))
 (.one ⟨none,.st (.t 2) (.t 21) 6,none⟩
 .done))))
 (.alt (Qo 19 (.call 214 [(.t 16),(.t 18)]))
 (.one (Qo 15 (.Me 44 6 1 [(.d (.int .i64 0)),(.d (.str [])),(.d (.int .i64 0)),.AX,.AX,.AX] [(0,6,(.t 14))]))
 (.one (Qo 20 (.app 44 6 104 (.t 15) (.t 19)))
 (.one (Qo 21 (.bld [(.d (.int .i64 0)),(.d (.str [])),(.d (.int .i64 0)),.AX,.AX,.AX] [(0,1,(.c (.d (.int .i64 5)))),(4,1,(.t 20))]))
 (.one ⟨none,.st (.t 2) (.t 21) 6,none⟩
 .done))))
 .done)))))) [2])
 .ret))))))
def M5:List (List Nat×PT):=[([0,2],.done),([0,2,5],.done),([2],.done),([0,2,3],.done),([0,2,3,10],.done),([2],.done),([0,2,3],.done),([2],(.one 0 (.one 2 (.one 3 (.one 4 (.alt 1 (.one 5 (.one 6 (.one 7 (.one 8 .done)))) (.alt 5 (.one 1 (.one 6 (.one 7 (.one 8 .done)))) .done)))))))]
noncomputable def CJ:Cx:=⟨Tryz.prog,211,Tryz.f211,22,[15,300011,300014],[],[.c 2 (some 6)]⟩
theorem CF:Good CJ:=⟨Tryz.func211,by kernel_rfl⟩
theorem Lk:CJ.rs=[.c 2 (some 6)]:=rfl
theorem MT (hl:args.length≤22) (h:Run CJ K [.code MM] (An args) E σ):AR Tryz.prog 211 args σ K:=
 AW (cx:=CJ) (code:=Tryz.f211.body.getD .skip) CF (by kernel_rfl) Tryz.ntmps211 hl (AY CJ _ M5 _ [] (by kernel_rfl)) h
def Km:C:=(.seq (.reg [Qo 2 (.al [(.d (.int .i64 0)),(.d (.str [])),(.d (.int .i64 0)),.AX,.AX,.AX] false)] [0,2])
 (.seq (.reg [Qm 4 0,
 Qo 5 (.call 127 [(.t 4),(.c (.d (.str [40])))])] [0,2])
 (.seq (.reg [Qo 6 (.bld [(.d (.int .i64 0)),(.d (.str [])),(.d (.int .i64 0)),.AX,.AX,.AX] [(0,1,(.c (.d (.int .i64 15))))]),
 Qo 3 (.al [(.d (.int .i64 0)),(.d (.str [])),(.d (.int .i64 0)),.AX,.AX,.AX] false),
 ⟨none,.st (.t 3) (.t 6) 6,none⟩] [0,2,3])
 (.seq (.seq (.reg [Qm 7 0,
 Qo 8 (.call 65 [(.t 7),(.c (.d (.str [45])))])] [0,2,3,8])
 (.cond (.t 8) (.reg [Qm 9 0,
 Qo 10 (.call 209 [(.t 9)]),
 Qo 11 (.un .neg (.t 10)),
 Qo 12 (.fld (.t 3) 2),
 ⟨none,.st (.t 12) (.t 11) 1,none⟩] [0,2,3])
 (.reg [Qm 13 0,
 Qo 14 (.call 209 [(.t 13)]),
 Qo 15 (.fld (.t 3) 2),
 ⟨none,.st (.t 15) (.t 14) 1,none⟩] [0,2,3])))
 (.seq (.reg [Qm 16 0,
 Qo 17 (.call 127 [(.t 16),(.c (.d (.str [41])))])] [2,3])
 (.seq (.reg [Qo 18 (.ldl (.t 3) (some 6)),
 ⟨none,.st (.t 2) (.t 18) 6,none⟩] [2])
 .ret))))))
noncomputable def EL:Cx:=⟨Tryz.prog,212,Tryz.f212,19,[300018],[],[.c 2 (some 6)]⟩
theorem HI:Good EL:=⟨Tryz.func212,by kernel_rfl⟩
theorem RO:EL.rs=[.c 2 (some 6)]:=rfl
theorem Rw (hl:args.length≤19) (h:Run EL K [.code Km] (An args) E σ):AR Tryz.prog 212 args σ K:=
 AW (cx:=EL) (code:=Tryz.f212.body.getD .skip) HI (by kernel_rfl) Tryz.ntmps212 hl (AY EL _ (As Km) _ [] (by kernel_rfl)) h
def L5:C:=(.seq (.reg [Qo 14 (.bin .lss (.t 13) (.t 12))] [0,5,12,13,14])
 (.seq (.cond (.t 14) .skip
 (.exit 0))
 (.seq (.block 1 (.seq (.reg [Qm 15 0,
 Qo 16 (.call 127 [(.t 15),(.c (.d (.str [44])))])] [0,5,12,13])
 (.reg [Qm 17 5,
 Qm 18 0,
 Qo 19 (.call 131 [(.t 18)]),
 Qo 20 (.bsl 6 1 [(.d (.int .i64 0)),(.d (.str [])),(.d (.int .i64 0)),.AX,.AX,.AX] [(0,6,(.t 19))]),
 Qo 21 (.app 44 6 104 (.t 17) (.t 20)),
 Qm 5 21] [0,5,12,13])))
 (.reg [Qo 22 (.bin .add (.t 13) (.c (.d (.int .i64 1)))),
 Qm 13 22] [0,5,12,13]))))
def H3:C:=(.seq (.reg [Qo 4 (.mv (.c .AX))] [0,1])
 (.seq (.reg [Qm 6 0,
 Qo 7 (.call 127 [(.t 6),(.c (.d (.str [40])))])] [0,1])
 (.seq (.reg [Qm 8 0,
 Qo 9 (.call 131 [(.t 8)]),
 Qo 10 (.Me 44 6 1 [(.d (.int .i64 0)),(.d (.str [])),(.d (.int .i64 0)),.AX,.AX,.AX] [(0,6,(.t 9))]),
 Qm 5 10] [0,1,5])
 (.seq (.seq (.reg [Qm 11 1,
 Qo 12 (.bin .sub (.t 11) (.c (.d (.int .i64 1)))),
 Qo 13 (.mv (.c (.d (.int .i64 0))))] [0,5,12,13])
 (.block 0 (.loop L5)))
 (.seq (.reg [Qm 23 0,
 Qo 24 (.call 127 [(.t 23),(.c (.d (.str [41])))])] [5])
 (.seq (.reg [Qm 25 5,
 Qm 4 25] [4])
 .ret))))))
noncomputable def C8:Cx:=⟨Tryz.prog,213,Tryz.f213,26,[10],[],[.t 4]⟩
theorem H6:Good C8:=⟨Tryz.func213,by kernel_rfl⟩
theorem NN:C8.rs=[.t 4]:=rfl
theorem N7 (hl:args.length≤26) (h:Run C8 K [.code H3] (An args) E σ):AR Tryz.prog 213 args σ K:=
 AW (cx:=C8) (code:=Tryz.f213.body.getD .skip) H6 (by kernel_rfl) Tryz.ntmps213 hl (AY C8 _ (As H3) _ [] (by kernel_rfl)) h
def Hk:C:=(.seq (.reg [Qo 4 (.mv (.c .AX))] [0,1])
 (.seq (.reg [Qm 6 0,
 Qm 7 1,
 Qo 8 (.call 216 [(.t 6),(.c (.d (.str [44]))),(.t 7)]),
 Qm 5 8] [0,5])
 (.seq (.reg [Qm 9 0,
 Qo 10 (.call 127 [(.t 9),(.c (.d (.str [41])))])] [5])
 (.seq (.reg [Qm 11 5,
 Qm 4 11] [4])
 .ret))))
noncomputable def Cj:Cx:=⟨Tryz.prog,214,Tryz.f214,12,[],[],[.t 4]⟩
theorem Hr:Good Cj:=⟨Tryz.func214,by kernel_rfl⟩
theorem Nc:Cj.rs=[.t 4]:=rfl
theorem OG (hl:args.length≤12) (h:Run Cj K [.code Hk] (An args) E σ):AR Tryz.prog 214 args σ K:=
 AW (cx:=Cj) (code:=Tryz.f214.body.getD .skip) Hr (by kernel_rfl) Tryz.ntmps214 hl (AY Cj _ (As Hk) _ [] (by kernel_rfl)) h
def Mg:C:=(.seq (.seq (.reg [Qm 11 0,
 Qm 12 1,
 Qo 13 (.call 65 [(.t 11),(.t 12)])] [0,1,2,7,13])
 (.cond (.t 13) .skip
 (.exit 0)))
 (.block 1 (.reg [Qm 14 7,
 Qm 15 2,
 Qo 16 (.ER (.t 15) []),
 Qo 17 (.bsl 6 1 [(.d (.int .i64 0)),(.d (.str [])),(.d (.int .i64 0)),.AX,.AX,.AX] [(0,6,(.t 16))]),
 Qo 18 (.app 44 6 104 (.t 14) (.t 17)),
 Qm 7 18] [0,1,2,7])))
def IW:C:=(.seq (.reg [Qo 6 (.mv (.c .AX))] [0,1,2])
 (.seq (.reg [Qm 8 2,
 Qo 9 (.ER (.t 8) []),
 Qo 10 (.Me 44 6 1 [(.d (.int .i64 0)),(.d (.str [])),(.d (.int .i64 0)),.AX,.AX,.AX] [(0,6,(.t 9))]),
 Qm 7 10] [0,1,2,7])
 (.seq (.block 0 (.loop Mg))
 (.seq (.reg [Qm 19 7,
 Qm 6 19] [6])
 .ret))))
noncomputable def Cu:Cx:=⟨Tryz.prog,216,Tryz.f216,20,[10],[],[.t 6]⟩
theorem I3:Good Cu:=⟨Tryz.func216,by kernel_rfl⟩
theorem OP:Cu.rs=[.t 6]:=rfl
theorem Oe (hl:args.length≤20) (h:Run Cu K [.code IW] (An args) E σ):AR Tryz.prog 216 args σ K:=
 AW (cx:=Cu) (code:=Tryz.f216.body.getD .skip) I3 (by kernel_rfl) Tryz.ntmps216 hl (AY Cu _ (As IW) _ [] (by kernel_rfl)) h
attribute [go_sem] Wp OR RJ PF RE SU RG QK RN PE RH PG M1 SS Oy RF PD PA LN SY SW Oz SQ RA RB QJ LM OQ LL SX Ng Vr Lj RL SR RK Nb PH Nd Lk RO NN Nc OP
end Go.Ab
