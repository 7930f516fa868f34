/- The equations that run compact code, as one set. The compact codes of the functions of this seat, computed out of the translation. Conditions: none. -/
import Derived.Test.YtdbpmhfepfpldaaDoorProg
import Derived.KernelRfl
import Derived.Test.YtdbpmhfepfpldaaDoorXLift
set_option linter.unusedSimpArgs false
set_option linter.unusedVariables false
set_option maxRecDepth 4000
set_option maxHeartbeats 8000000
open Option renaming bind_some→BU,map_some→Ax,bind_eq_bind→AE
open List renaming map_cons→C5,map_nil→Cr,all_cons→Ar,all_nil→Cq,length_cons→Ap,length_nil→B7,getElem?_cons_zero→KZ,getElem?_cons_succ→FK,take_succ_cons→H4,take_zero→DL,drop_succ_cons→H0,cons_append→C9,nil_append→B8,append_nil→BS
open Bool renaming and_true→DG,true_and→GV,false_eq_true→A4
open Nat renaming add_zero→CA,zero_add→Ah,le_refl→AP
namespace Go.Ab
attribute [go_sem] WD UW UU UY UX Ra UT exP EZ NA Tq Tk Rw Rq Qq Qi Tx Tr Vv Vp Sl Sg Ph Pw V6 Mx UZ Vf U3 WE Ve Vd U7 Ua V9 U2 fdA R0 M3 M8 EU T5 Qz Ob Nt RF PM Tc Option.map_none false_implies true_implies Vh Vg Ub Uc Vc TW WM U6 V5 WK WJ U8 V7 U9 V0 U0 WO U5 V1 V3 V8 V4 Vb WL V2 WC U1 VY WN TX U4 TV VZ TU Va WI WH Vw Vx RP QB Su Vi Vm SS Qu Qt PB PU UC PS RO WU WT ixA ixR Int.toNat_natCast Int.natCast_nonneg Rc LW NR rvA T6 Od QY Oa QX Ru Rt Rr Oc Rv Rs QZ Na SP Nv Oy Nr Ox Qn Ql Qj Nu Qp Qk Oz Mr VO RH Sd RE Sc Tv Tu Ts RG Tw Tt Se PH WQ Te Uy Tb Ux Vt Vs Vq Td Vu Vr Uz SG RT TA RS PX Qw S0 Qv Ti Tj VI Tz Hw RK PL RJ Sj Si Sh PN Sk plain_fn RL OE AV.DI Cut QF US UR UQ OC Oq rdC ldA M7 Qg QO MM unA Q8 S9 stA wr D7 dvs chunk xvs AS UB RN VK RB S4 Qy S3 To Tn Tl RA Tp Tm S5 PF Af D4 Ho Om BU Ax AE Option.pure_def C5 Cr Ar Cq Ap B7 KZ FK H4 DL H0 List.drop_zero List.take_nil List.drop_nil C9 B8 BS Bool.and_self DG GV Bool.or_true Bool.true_or Bool.or_false Bool.false_or Bool.not_true Bool.not_false Bool.and_false Bool.false_and Bool.not_not BEq.rfl beq_self_eq_true CA Ah decide_true decide_false AP and_self and_true true_and ite_true ite_false A4 Bool.cond_true Bool.cond_false beq_true beq_false Bool.true_beq Bool.false_beq
def Bo:C→List (List Nat×PT)
 | .reg _ l=>[(l,.done)]
 | .Sx _ l=>[(l,.done)]
 | .seq x y=>Bo x++Bo y
 | .cond _ t e=>Bo t++Bo e
 | .block _ c=>Bo c
 | .loop c=>Bo c
 | .scope c=>Bo c
 |_=>[]
@[reducible] def Qo (d:Nat) (o:O):Q:=⟨some d,o,none⟩
@[reducible] def Qm (d s:Nat):Q:=⟨some d,.mv (.t s),none⟩
attribute [go_sem] Qo Qm
end Go.Ab
namespace Go.Ab
open Go.Proofs
variable {args:List AV} {σ:AF} {K:AV→AF→Prop}
theorem mixed:Tryd.prog.follows .mixedOrders=true:=by kernel_rfl
def IU:C:=(.seq (.reg [Qo 24 (.bin .lss (.t 23) (.t 22))] [2,3,22,23,24])
 (.seq (.cond (.t 24) .skip
 (.exit 0))
 (.seq (.block 1 (.seq (.reg [Qm 25 23,
 Qm 5 25] [2,3,5,22,23])
 (.seq (.reg [Qo 26 (.fld (.t 2) 1),
 Qo 27 (.ldl (.t 26) none),
 Qm 28 5,
 Qo 29 (.ix (.t 27) (.t 28) 2),
 Qo 30 (.ld (.t 29) (some 2)),
 Qo 31 (.fld (.t 3) 1),
 Qo 32 (.ldl (.t 31) none),
 Qm 33 5,
 Qo 34 (.ix (.t 32) (.t 33) 2),
 Qo 35 (.ld (.t 34) (some 2)),
 Qo 36 (.OM true 2 (.t 30) (.t 35))] [2,3,22,23,36])
 (.cond (.t 36) (.seq (.reg [Qo 4 (.mv (.c (.d (.bool false))))] [4])
 .ret)
 .skip))))
 (.reg [Qo 37 (.bin .add (.t 23) (.c (.d (.int .i64 1)))),
 Qm 23 37] [2,3,22,23]))))
def GY:C:=(.seq (.reg [Qo 2 (.box (.t 0) false),
 Qo 3 (.box (.t 1) false),
 Qo 4 (.mv (.c (.d (.bool false))))] [2,3])
 (.seq (.seq (.reg [Qo 6 (.fld (.t 2) 0),
 Qo 7 (.ldl (.t 6) none),
 Qo 8 (.fld (.t 3) 0),
 Qo 9 (.ldl (.t 8) none),
 Qo 10 (.bin .neq (.t 7) (.t 9)),
 Qm 11 10,
 ⟨some 12,.fld (.t 2) 1,some (11,false)⟩,
 ⟨some 13,.ldl (.t 12) none,some (11,false)⟩,
 ⟨some 14,.len (.t 13),some (11,false)⟩,
 ⟨some 15,.fld (.t 3) 1,some (11,false)⟩,
 ⟨some 16,.ldl (.t 15) none,some (11,false)⟩,
 ⟨some 17,.len (.t 16),some (11,false)⟩,
 ⟨some 18,.bin .neq (.t 14) (.t 17),some (11,false)⟩,
 Qo 19 (.pick (.t 11) (.c (.d (.bool true))) (.t 18))] [2,3,19])
 (.cond (.t 19) (.seq (.reg [Qo 4 (.mv (.c (.d (.bool false))))] [4])
 .ret)
 .skip))
 (.seq (.seq (.reg [Qo 20 (.fld (.t 2) 1),
 Qo 21 (.ldl (.t 20) none),
 Qo 22 (.len (.t 21)),
 Qo 23 (.mv (.c (.d (.int .i64 0))))] [2,3,22,23])
 (.block 0 (.loop IU)))
 (.seq (.reg [Qo 4 (.mv (.c (.d (.bool true))))] [4])
 .ret))))
noncomputable def Cy:Cx:=⟨Tryd.prog,17,Tryd.f17,38,[300007,300009,300013,300016,300021,300027,300032],[],[.t 4]⟩
theorem Bv:Good Cy:=⟨Tryd.func17,by kernel_rfl⟩
theorem KG:Cy.rs=[.t 4]:=rfl
theorem Ky (hl:args.length≤38) (h:Run Cy K [.code GY] (B0 args) E σ):AM Tryd.prog 17 args σ K:=
 AT (cx:=Cy) (code:=Tryd.f17.body.getD .skip) Bv (by kernel_rfl) Tryd.ntmps17 hl (AU Cy _ (Bo GY) _ [] (by kernel_rfl)) h
def G0:C:=(.seq (.reg [Qo 2 (.al [(.d (.int .i64 0)),.A7] false)] [0,2])
 (.seq (.seq (.reg [Qm 3 0,
 Qo 4 (.call 49 [(.t 3)]),
 Qo 5 (.un .not (.t 4))] [0,2,5])
 (.cond (.t 5) (.seq (.reg [Qo 6 (.bld [(.d (.int .i64 0)),.A7] []),
 ⟨none,.st (.t 2) (.t 6) 2,none⟩] [2])
 .ret)
 .skip))
 (.seq (.reg [Qm 7 0,
 Qo 8 (.bld [(.d (.int .i64 0)),.A7] [(0,1,(.t 7))]),
 ⟨none,.st (.t 2) (.t 8) 2,none⟩] [2])
 .ret)))
noncomputable def Cz:Cx:=⟨Tryd.prog,18,Tryd.f18,9,[],[],[.c 2 (some 2)]⟩
theorem Gc:Good Cz:=⟨Tryd.func18,by kernel_rfl⟩
theorem KH:Cz.rs=[.c 2 (some 2)]:=rfl
theorem Kz (hl:args.length≤9) (h:Run Cz K [.code G0] (B0 args) E σ):AM Tryd.prog 18 args σ K:=
 AT (cx:=Cz) (code:=Tryd.f18.body.getD .skip) Gc (by kernel_rfl) Tryd.ntmps18 hl (AU Cz _ (Bo G0) _ [] (by kernel_rfl)) h
def FQ:C:=(.seq (.reg [Qo 2 (.al [(.d (.int .i64 0)),.A7] false)] [0,2])
 (.seq (.seq (.reg [Qm 3 0,
 Qo 4 (.call 50 [(.t 3)]),
 Qo 5 (.un .not (.t 4))] [0,2,5])
 (.cond (.t 5) (.seq (.reg [Qo 6 (.bld [(.d (.int .i64 0)),.A7] []),
 ⟨none,.st (.t 2) (.t 6) 2,none⟩] [2])
 .ret)
 .skip))
 (.seq (.reg [Qm 7 0,
 Qo 8 (.bld [(.d (.int .i64 0)),(.d (.int .i64 0))] [(0,1,(.t 7)),(1,1,(.c (.d (.int .i64 1))))]),
 Qo 9 (.bsl 2 1 [(.d (.int .i64 0)),(.d (.int .i64 0))] [(0,2,(.t 8))]),
 Qo 10 (.bld [(.d (.int .i64 0)),.A7] [(1,1,(.t 9))]),
 ⟨none,.st (.t 2) (.t 10) 2,none⟩] [2])
 .ret)))
noncomputable def CO:Cx:=⟨Tryd.prog,20,Tryd.f20,11,[],[],[.c 2 (some 2)]⟩
theorem FV:Good CO:=⟨Tryd.func20,by kernel_rfl⟩
theorem IC:CO.rs=[.c 2 (some 2)]:=rfl
theorem Ih (hl:args.length≤11) (h:Run CO K [.code FQ] (B0 args) E σ):AM Tryd.prog 20 args σ K:=
 AT (cx:=CO) (code:=Tryd.f20.body.getD .skip) FV (by kernel_rfl) Tryd.ntmps20 hl (AU CO _ (Bo FQ) _ [] (by kernel_rfl)) h
def Ll:C:=(.seq (.reg [Qo 0 (.mv (.c (.d (.bool false))))] [])
 (.seq (.reg [Qo 6 (.call 20 [(.c (.d (.int .i64 1)))]),
 Qo 7 (.call 20 [(.c (.d (.int .i64 2)))]),
 Qo 8 (.call 29 [(.t 6),(.t 7)]),
 Qm 5 8,
 Qo 9 (.ext (.t 5) 0),
 Qo 10 (.ext (.t 5) 1),
 Qo 1 (.al [(.d (.int .i64 0)),.A7] false),
 ⟨none,.st (.t 1) (.t 9) 2,none⟩,
 Qm 2 10] [1,2])
 (.seq (.reg [Qo 3 (.al [(.d (.int .i64 0)),.A7] false),
 Qo 12 (.ldl (.t 1) (some 2)),
 Qo 13 (.call 18 [(.c (.d (.int .i64 3)))]),
 Qo 14 (.call 27 [(.t 12),(.t 13)]),
 Qm 11 14,
 Qo 15 (.ext (.t 11) 0),
 Qo 16 (.ext (.t 11) 1),
 ⟨none,.st (.t 3) (.t 15) 2,none⟩,
 Qm 4 16] [2,3,4])
 (.seq (.reg [Qm 17 2,
 Qo 18 (.bin .eql (.t 17) (.c (.d (.int .i64 0)))),
 Qm 19 18,
 ⟨some 20,.mv (.t 4),some (19,true)⟩,
 ⟨some 21,.bin .eql (.t 20) (.c (.d (.int .i64 0))),some (19,true)⟩,
 Qo 22 (.pick (.t 19) (.t 21) (.c (.d (.bool false)))),
 Qm 23 22,
 ⟨some 24,.ldl (.t 3) (some 2),some (23,true)⟩,
 ⟨some 25,.call 24 [(.t 24)],some (23,true)⟩,
 ⟨some 26,.bin .eql (.t 25) (.c (.d (.str [118,49,32,45,32,118,50,32,43,32,51]))),some (23,true)⟩,
 Qo 27 (.pick (.t 23) (.t 26) (.c (.d (.bool false)))),
 Qm 0 27] [0])
 .ret))))
def MG:List (List Nat×PT):=[([],.done),([1,2],.done),([2,3,4],(.lay 6 (.one 0 (.one 1 (.one 2 (.one 3 (.one 4 (.one 5 (.one 7 (.one 8 .done)))))))))),([0],.done)]
noncomputable def DX:Cx:=⟨Tryd.prog,22,Tryd.f22,28,[300012,300024],[],[.t 0]⟩
theorem Hc:Good DX:=⟨Tryd.func22,by kernel_rfl⟩
theorem LX:DX.rs=[.t 0]:=rfl
theorem Lq (hl:args.length≤28) (h:Run DX K [.code Ll] (B0 args) E σ):AM Tryd.prog 22 args σ K:=
 AT (cx:=DX) (code:=Tryd.f22.body.getD .skip) Hc (by kernel_rfl) Tryd.ntmps22 hl (AU DX _ MG _ [] (by kernel_rfl)) h
def JC:C:=(.seq (.seq (.reg [Qm 4 3,
 Qm 5 0,
 Qo 6 (.len (.t 5)),
 Qo 7 (.bin .lss (.t 4) (.t 6)),
 Qm 8 7,
 ⟨some 9,.mv (.t 3),some (8,true)⟩,
 ⟨some 10,.bin .lss (.t 9) (.c (.d (.int .i64 9))),some (8,true)⟩,
 Qo 11 (.pick (.t 8) (.t 10) (.c (.d (.bool false))))] [0,3,11])
 (.cond (.t 11) .skip
 (.exit 0)))
 (.seq (.block 1 (.seq (.reg [Qm 14 0,
 Qm 15 3,
 Qo 16 (.ix (.t 14) (.t 15) 2),
 Qo 17 (.ld (.t 16) (some 2)),
 Qo 18 (.call 36 [(.t 17)]),
 Qo 19 (.un .not (.t 18))] [0,3,19])
 (.cond (.t 19) (.seq (.reg [Qo 2 (.mv (.c (.d (.bool false))))] [2])
 .ret)
 .skip)))
 (.reg [Qm 12 3,
 Qo 13 (.bin .add (.t 12) (.c (.d (.int .i64 1)))),
 Qm 3 13] [0,3])))
def H6:C:=(.seq (.reg [Qo 2 (.mv (.c (.d (.bool false))))] [0])
 (.seq (.seq (.reg [Qo 3 (.mv (.c (.d (.int .i64 0))))] [0,3])
 (.block 0 (.loop JC)))
 (.seq (.reg [Qm 20 0,
 Qo 21 (.len (.t 20)),
 Qo 22 (.bin .leq (.t 21) (.c (.d (.int .i64 8)))),
 Qm 2 22] [2])
 .ret)))
noncomputable def DY:Cx:=⟨Tryd.prog,23,Tryd.f23,23,[],[],[.t 2]⟩
theorem Ci:Good DY:=⟨Tryd.func23,by kernel_rfl⟩
theorem LY:DY.rs=[.t 2]:=rfl
theorem Lr (hl:args.length≤23) (h:Run DY K [.code H6] (B0 args) E σ):AM Tryd.prog 23 args σ K:=
 AT (cx:=DY) (code:=Tryd.f23.body.getD .skip) Ci (by kernel_rfl) Tryd.ntmps23 hl (AU DY _ (Bo H6) _ [] (by kernel_rfl)) h
def Hq:C:=(.seq (.reg [Qo 14 (.bin .lss (.t 13) (.t 12))] [1,3,11,12,13,14])
 (.seq (.cond (.t 14) .skip
 (.exit 0))
 (.seq (.block 1 (.seq (.reg [Qm 15 13,
 Qo 16 (.ix (.t 11) (.t 13) 2),
 Qo 17 (.ld (.t 16) (some 2)),
 Qo 5 (.al [(.d (.int .i64 0)),(.d (.int .i64 0))] false),
 Qm 4 15,
 ⟨none,.st (.t 5) (.t 17) 2,none⟩] [1,3,4,5,11,12,13])
 (.seq (.reg [Qo 18 (.fld (.t 5) 1),
 Qo 19 (.ldl (.t 18) none),
 Qm 20 4,
 Qo 21 (.bin .eql (.t 20) (.c (.d (.int .i64 0)))),
 Qo 22 (.call 51 [(.t 3),(.t 19),(.t 21)]),
 Qm 6 22] [1,3,5,6,11,12,13])
 (.seq (.seq (.reg [Qm 23 6,
 Qo 24 (.bin .neq (.t 23) (.c (.d (.int .i64 1))))] [1,3,5,6,11,12,13,24])
 (.cond (.t 24) (.reg [Qm 25 6,
 Qo 26 (.call 53 [(.t 25),(.c (.d (.int .i64 10)))]),
 Qo 27 (.bin .add (.t 26) (.c (.d (.str [42])))),
 Qo 28 (.call 52 [(.t 3),(.t 27)])] [1,3,5,11,12,13])
 .skip))
 (.seq (.reg [Qo 29 (.fld (.t 5) 0),
 Qo 30 (.ldl (.t 29) none),
 Qo 31 (.bin .eql (.t 30) (.c (.d (.int .i64 (-1)))))] [1,3,5,11,12,13,31])
 (.cond (.t 31) (.reg [Qo 32 (.call 52 [(.t 3),(.c (.d (.str [114,101,115])))])] [1,3,11,12,13])
 (.reg [Qo 33 (.fld (.t 5) 0),
 Qo 34 (.ldl (.t 33) none),
 Qo 35 (.call 54 [(.t 34)]),
 Qo 36 (.bin .add (.c (.d (.str [118]))) (.t 35)),
 Qo 37 (.call 52 [(.t 3),(.t 36)])] [1,3,11,12,13])))))))
 (.reg [Qo 38 (.bin .add (.t 13) (.c (.d (.int .i64 1)))),
 Qm 13 38] [1,3,11,12,13]))))
def GN:C:=(.seq (.reg [Qo 1 (.box (.t 0) false),
 Qo 2 (.mv (.c (.d (.str []))))] [1])
 (.seq (.seq (.reg [Qo 7 (.ldl (.t 1) (some 2)),
 Qo 8 (.call 35 [(.t 7)]),
 Qo 9 (.un .not (.t 8))] [1,9])
 (.cond (.t 9) (.seq (.reg [Qo 2 (.mv (.c (.d (.str []))))] [2])
 .ret)
 .skip))
 (.seq (.reg [Qo 3 (.ex (.alt 73 [.CS,.A7]) [])] [1,3])
 (.seq (.seq (.reg [Qo 10 (.fld (.t 1) 1),
 Qo 11 (.ldl (.t 10) none),
 Qo 12 (.len (.t 11)),
 Qo 13 (.mv (.c (.d (.int .i64 0))))] [1,3,11,12,13])
 (.block 0 (.loop Hq)))
 (.seq (.seq (.reg [Qo 39 (.fld (.t 1) 0),
 Qo 40 (.ldl (.t 39) none),
 Qo 41 (.bin .neq (.t 40) (.c (.d (.int .i64 0)))),
 Qm 42 41,
 ⟨some 43,.fld (.t 1) 1,some (42,false)⟩,
 ⟨some 44,.ldl (.t 43) none,some (42,false)⟩,
 ⟨some 45,.len (.t 44),some (42,false)⟩,
 ⟨some 46,.bin .eql (.t 45) (.c (.d (.int .i64 0))),some (42,false)⟩,
 Qo 47 (.pick (.t 42) (.c (.d (.bool true))) (.t 46))] [1,3,47])
 (.cond (.t 47) (.reg [Qo 48 (.fld (.t 1) 0),
 Qo 49 (.ldl (.t 48) none),
 Qo 50 (.fld (.t 1) 1),
 Qo 51 (.ldl (.t 50) none),
 Qo 52 (.len (.t 51)),
 Qo 53 (.bin .eql (.t 52) (.c (.d (.int .i64 0)))),
 Qo 54 (.call 51 [(.t 3),(.t 49),(.t 53)]),
 Qo 55 (.call 53 [(.t 54),(.c (.d (.int .i64 10)))]),
 Qo 56 (.call 52 [(.t 3),(.t 55)])] [3])
 .skip))
 (.seq (.reg [Qo 57 (.call 55 [(.t 3)]),
 Qm 2 57] [2])
 .ret))))))
noncomputable def Cf:Cx:=⟨Tryd.prog,24,Tryd.f24,58,[3,300007,300011,300019,300030,300034,300040,300044,300049,300051],[],[.t 2]⟩
theorem Cd:Good Cf:=⟨Tryd.func24,by kernel_rfl⟩
theorem JY:Cf.rs=[.t 2]:=rfl
theorem KC (hl:args.length≤58) (h:Run Cf K [.code GN] (B0 args) E σ):AM Tryd.prog 24 args σ K:=
 AT (cx:=Cf) (code:=Tryd.f24.body.getD .skip) Cd (by kernel_rfl) Tryd.ntmps24 hl (AU Cf _ (Bo GN) _ [] (by kernel_rfl)) h
def IV:C:=(.seq (.reg [Qo 2 (.box (.t 0) false),
 Qo 3 (.box (.t 1) false),
 Qo 4 (.al [(.d (.int .i64 0)),.A7] false),
 Qo 5 (.mv (.c (.d (.int .i64 0))))] [2,3,4])
 (.seq (.seq (.reg [Qo 6 (.ldl (.t 2) (some 2)),
 Qo 7 (.call 35 [(.t 6)]),
 Qo 8 (.un .not (.t 7)),
 Qm 9 8,
 ⟨some 10,.ldl (.t 3) (some 2),some (9,false)⟩,
 ⟨some 11,.call 35 [(.t 10)],some (9,false)⟩,
 ⟨some 12,.un .not (.t 11),some (9,false)⟩,
 Qo 13 (.pick (.t 9) (.c (.d (.bool true))) (.t 12))] [2,3,4,13])
 (.cond (.t 13) (.seq (.reg [Qo 14 (.bld [(.d (.int .i64 0)),.A7] []),
 ⟨none,.st (.t 4) (.t 14) 2,none⟩,
 Qo 5 (.mv (.c (.d (.int .i64 1))))] [4,5])
 .ret)
 .skip))
 (.seq (.reg [Qo 15 (.fld (.t 2) 0),
 Qo 16 (.ldl (.t 15) none),
 Qo 17 (.fld (.t 3) 0),
 Qo 18 (.ldl (.t 17) none),
 Qo 19 (.bin .add (.t 16) (.t 18)),
 Qo 20 (.fld (.t 2) 1),
 Qo 21 (.ldl (.t 20) none),
 Qo 22 (.fld (.t 3) 1),
 Qo 23 (.ldl (.t 22) none),
 Qo 24 (.bsl 1 2 [.A7,.A7] [(0,1,(.t 21)),(1,1,(.t 23))]),
 Qo 25 (.call 58 [(.t 24)]),
 Qo 26 (.call 57 [(.t 19),(.t 25)]),
 Qo 27 (.ext (.t 26) 0),
 Qo 28 (.ext (.t 26) 1),
 ⟨none,.st (.t 4) (.t 27) 2,none⟩,
 Qm 5 28] [4,5])
 .ret)))
noncomputable def Dn:Cx:=⟨Tryd.prog,27,Tryd.f27,29,[300006,300010,300016,300018,300021,300023],[],[.c 4 (some 2),.t 5]⟩
theorem E7:Good Dn:=⟨Tryd.func27,by kernel_rfl⟩
theorem MC:Dn.rs=[.c 4 (some 2),.t 5]:=rfl
theorem Mn (hl:args.length≤29) (h:Run Dn K [.code IV] (B0 args) E σ):AM Tryd.prog 27 args σ K:=
 AT (cx:=Dn) (code:=Tryd.f27.body.getD .skip) E7 (by kernel_rfl) Tryd.ntmps27 hl (AU Dn _ (Bo IV) _ [] (by kernel_rfl)) h
def IW:C:=(.seq (.reg [Qo 2 (.box (.t 0) false),
 Qo 3 (.box (.t 1) false),
 Qo 4 (.al [(.d (.int .i64 0)),.A7] false),
 Qo 5 (.mv (.c (.d (.int .i64 0))))] [2,3,4])
 (.seq (.seq (.reg [Qo 6 (.ldl (.t 2) (some 2)),
 Qo 7 (.call 35 [(.t 6)]),
 Qo 8 (.un .not (.t 7)),
 Qm 9 8,
 ⟨some 10,.ldl (.t 3) (some 2),some (9,false)⟩,
 ⟨some 11,.call 35 [(.t 10)],some (9,false)⟩,
 ⟨some 12,.un .not (.t 11),some (9,false)⟩,
 Qo 13 (.pick (.t 9) (.c (.d (.bool true))) (.t 12))] [2,3,4,13])
 (.cond (.t 13) (.seq (.reg [Qo 14 (.bld [(.d (.int .i64 0)),.A7] []),
 ⟨none,.st (.t 4) (.t 14) 2,none⟩,
 Qo 5 (.mv (.c (.d (.int .i64 1))))] [4,5])
 .ret)
 .skip))
 (.seq (.reg [Qo 15 (.fld (.t 2) 0),
 Qo 16 (.ldl (.t 15) none),
 Qo 17 (.fld (.t 3) 0),
 Qo 18 (.ldl (.t 17) none),
 Qo 19 (.bin .sub (.t 16) (.t 18)),
 Qo 20 (.fld (.t 2) 1),
 Qo 21 (.ldl (.t 20) none),
 Qo 22 (.fld (.t 3) 1),
 Qo 23 (.ldl (.t 22) none),
 Qo 24 (.call 61 [(.t 23),(.c (.d (.int .i64 (-1))))]),
 Qo 25 (.bsl 1 2 [.A7,.A7] [(0,1,(.t 21)),(1,1,(.t 24))]),
 Qo 26 (.call 58 [(.t 25)]),
 Qo 27 (.call 57 [(.t 19),(.t 26)]),
 Qo 28 (.ext (.t 27) 0),
 Qo 29 (.ext (.t 27) 1),
 ⟨none,.st (.t 4) (.t 28) 2,none⟩,
 Qm 5 29] [4,5])
 .ret)))
noncomputable def Dp:Cx:=⟨Tryd.prog,29,Tryd.f29,30,[300006,300010,300016,300018,300021,300023],[],[.c 4 (some 2),.t 5]⟩
theorem E8:Good Dp:=⟨Tryd.func29,by kernel_rfl⟩
theorem MD:Dp.rs=[.c 4 (some 2),.t 5]:=rfl
theorem Mo (hl:args.length≤30) (h:Run Dp K [.code IW] (B0 args) E σ):AM Tryd.prog 29 args σ K:=
 AT (cx:=Dp) (code:=Tryd.f29.body.getD .skip) E8 (by kernel_rfl) Tryd.ntmps29 hl (AU Dp _ (Bo IW) _ [] (by kernel_rfl)) h
def IX:C:=(.seq (.reg [Qo 19 (.bin .lss (.t 18) (.t 17))] [1,16,17,18,19])
 (.seq (.cond (.t 19) .skip
 (.exit 0))
 (.seq (.block 1 (.seq (.reg [Qm 20 18,
 Qo 21 (.ix (.t 16) (.t 18) 2),
 Qo 22 (.ld (.t 21) (some 2)),
 Qo 4 (.al [(.d (.int .i64 0)),(.d (.int .i64 0))] false),
 Qm 3 20,
 ⟨none,.st (.t 4) (.t 22) 2,none⟩] [1,3,4,16,17,18])
 (.seq (.reg [Qo 23 (.fld (.t 4) 0),
 Qo 24 (.ldl (.t 23) none),
 Qo 25 (.call 50 [(.t 24)]),
 Qo 26 (.un .not (.t 25)),
 Qm 27 26,
 ⟨some 28,.fld (.t 4) 1,some (27,false)⟩,
 ⟨some 29,.ldl (.t 28) none,some (27,false)⟩,
 ⟨some 30,.bin .eql (.t 29) (.c (.d (.int .i64 0))),some (27,false)⟩,
 Qo 31 (.pick (.t 27) (.c (.d (.bool true))) (.t 30)),
 Qm 32 31,
 ⟨some 33,.fld (.t 4) 1,some (32,false)⟩,
 ⟨some 34,.ldl (.t 33) none,some (32,false)⟩,
 ⟨some 35,.call 49 [(.t 34)],some (32,false)⟩,
 ⟨some 36,.un .not (.t 35),some (32,false)⟩,
 Qo 37 (.pick (.t 32) (.c (.d (.bool true))) (.t 36)),
 Qm 38 37,
 ⟨some 39,.mv (.t 3),some (38,false)⟩,
 ⟨some 40,.bin .gtr (.t 39) (.c (.d (.int .i64 0))),some (38,false)⟩,
 ⟨some 41,.mv (.t 40),some (38,false)⟩,
 ⟨some 42,.fld (.t 1) 1,some (41,true)⟩,
 ⟨some 43,.ldl (.t 42) none,some (41,true)⟩,
 ⟨some 44,.mv (.t 3),some (41,true)⟩,
 ⟨some 45,.bin .sub (.t 44) (.c (.d (.int .i64 1))),some (41,true)⟩,
 ⟨some 46,.ix (.t 43) (.t 45) 2,some (41,true)⟩,
 ⟨some 47,.fld (.t 46) 0,some (41,true)⟩,
 ⟨some 48,.ld (.t 47) none,some (41,true)⟩,
 ⟨some 49,.fld (.t 4) 0,some (41,true)⟩,
 ⟨some 50,.ldl (.t 49) none,some (41,true)⟩,
 ⟨some 51,.bin .geq (.t 48) (.t 50),some (41,true)⟩,
 ⟨some 52,.pick (.t 41) (.t 51) (.c (.d (.bool false))),some (38,false)⟩,
 Qo 53 (.pick (.t 38) (.c (.d (.bool true))) (.t 52))] [1,16,17,18,53])
 (.cond (.t 53) (.seq (.reg [Qo 2 (.mv (.c (.d (.bool false))))] [2])
 .ret)
 .skip))))
 (.reg [Qo 54 (.bin .add (.t 18) (.c (.d (.int .i64 1)))),
 Qm 18 54] [1,16,17,18]))))
def G2:C:=(.seq (.reg [Qo 1 (.box (.t 0) false),
 Qo 2 (.mv (.c (.d (.bool false))))] [1])
 (.seq (.seq (.reg [Qo 5 (.fld (.t 1) 0),
 Qo 6 (.ldl (.t 5) none),
 Qo 7 (.call 49 [(.t 6)]),
 Qo 8 (.un .not (.t 7)),
 Qm 9 8,
 ⟨some 10,.fld (.t 1) 1,some (9,false)⟩,
 ⟨some 11,.ldl (.t 10) none,some (9,false)⟩,
 ⟨some 12,.len (.t 11),some (9,false)⟩,
 ⟨some 13,.bin .gtr (.t 12) (.c (.d (.int .i64 16))),some (9,false)⟩,
 Qo 14 (.pick (.t 9) (.c (.d (.bool true))) (.t 13))] [1,14])
 (.cond (.t 14) (.seq (.reg [Qo 2 (.mv (.c (.d (.bool false))))] [2])
 .ret)
 .skip))
 (.seq (.seq (.reg [Qo 15 (.fld (.t 1) 1),
 Qo 16 (.ldl (.t 15) none),
 Qo 17 (.len (.t 16)),
 Qo 18 (.mv (.c (.d (.int .i64 0))))] [1,16,17,18])
 (.block 0 (.loop IX)))
 (.seq (.reg [Qo 2 (.mv (.c (.d (.bool true))))] [2])
 .ret))))
noncomputable def DA:Cx:=⟨Tryd.prog,35,Tryd.f35,55,[300006,300011,300016,300024,300029,300034,300043,300050],[],[.t 2]⟩
theorem BO:Good DA:=⟨Tryd.func35,by kernel_rfl⟩
theorem KI:DA.rs=[.t 2]:=rfl
theorem LA (hl:args.length≤55) (h:Run DA K [.code G2] (B0 args) E σ):AM Tryd.prog 35 args σ K:=
 AT (cx:=DA) (code:=Tryd.f35.body.getD .skip) BO (by kernel_rfl) Tryd.ntmps35 hl (AU DA _ (Bo G2) _ [] (by kernel_rfl)) h
def K8:C:=(.seq (.reg [Qo 1 (.box (.t 0) false),
 Qo 2 (.mv (.c (.d (.bool false))))] [1])
 (.seq (.reg [Qo 3 (.fld (.t 1) 1),
 Qo 4 (.ldl (.t 3) none),
 Qo 5 (.len (.t 4)),
 Qo 6 (.bin .leq (.t 5) (.c (.d (.int .i64 70)))),
 Qm 2 6] [2])
 .ret))
noncomputable def Ez:Cx:=⟨Tryd.prog,36,Tryd.f36,7,[300004],[],[.t 2]⟩
theorem Ku:Good Ez:=⟨Tryd.func36,by kernel_rfl⟩
theorem OH:Ez.rs=[.t 2]:=rfl
theorem Ou (hl:args.length≤7) (h:Run Ez K [.code K8] (B0 args) E σ):AM Tryd.prog 36 args σ K:=
 AT (cx:=Ez) (code:=Tryd.f36.body.getD .skip) Ku (by kernel_rfl) Tryd.ntmps36 hl (AU Ez _ (Bo K8) _ [] (by kernel_rfl)) h
def G3:C:=(.seq (.reg [Qo 2 (.mv (.c (.d (.bool false))))] [0])
 (.seq (.reg [Qm 3 0,
 Qo 4 (.bin .leq (.c (.d (.int .i64 (-1048576)))) (.t 3)),
 Qm 5 4,
 ⟨some 6,.mv (.t 0),some (5,true)⟩,
 ⟨some 7,.bin .leq (.t 6) (.c (.d (.int .i64 1048576))),some (5,true)⟩,
 Qo 8 (.pick (.t 5) (.t 7) (.c (.d (.bool false)))),
 Qm 2 8] [2])
 .ret))
noncomputable def DB:Cx:=⟨Tryd.prog,49,Tryd.f49,9,[],[],[.t 2]⟩
theorem Gd:Good DB:=⟨Tryd.func49,by kernel_rfl⟩
theorem KJ:DB.rs=[.t 2]:=rfl
theorem LB (hl:args.length≤9) (h:Run DB K [.code G3] (B0 args) E σ):AM Tryd.prog 49 args σ K:=
 AT (cx:=DB) (code:=Tryd.f49.body.getD .skip) Gd (by kernel_rfl) Tryd.ntmps49 hl (AU DB _ (Bo G3) _ [] (by kernel_rfl)) h
def FR:C:=(.seq (.reg [Qo 2 (.mv (.c (.d (.bool false))))] [0])
 (.seq (.reg [Qm 3 0,
 Qo 4 (.bin .geq (.t 3) (.c (.d (.int .i64 (-1))))),
 Qm 5 4,
 ⟨some 6,.mv (.t 0),some (5,true)⟩,
 ⟨some 7,.bin .lss (.t 6) (.c (.d (.int .i64 3000))),some (5,true)⟩,
 Qo 8 (.pick (.t 5) (.t 7) (.c (.d (.bool false)))),
 Qm 2 8] [2])
 .ret))
noncomputable def CP:Cx:=⟨Tryd.prog,50,Tryd.f50,9,[],[],[.t 2]⟩
theorem FW:Good CP:=⟨Tryd.func50,by kernel_rfl⟩
theorem ID:CP.rs=[.t 2]:=rfl
theorem Ii (hl:args.length≤9) (h:Run CP K [.code FR] (B0 args) E σ):AM Tryd.prog 50 args σ K:=
 AT (cx:=CP) (code:=Tryd.f50.body.getD .skip) FW (by kernel_rfl) Tryd.ntmps50 hl (AU CP _ (Bo FR) _ [] (by kernel_rfl)) h
def H7:C:=(.seq (.reg [Qo 6 (.mv (.c (.d (.int .i64 0))))] [0,1,2])
 (.seq (.block 0 (.seq (.reg [Qm 8 2,
 Qm 9 8,
 ⟨some 10,.mv (.t 1),some (9,true)⟩,
 ⟨some 11,.bin .lss (.t 10) (.c (.d (.int .i64 0))),some (9,true)⟩,
 Qo 12 (.pick (.t 9) (.t 11) (.c (.d (.bool false)))),
 Qm 7 12] [0,1,2,7])
 (.cond (.t 7) (.reg [Qm 13 0,
 Qo 14 (.call 52 [(.t 13),(.c (.d (.str [45])))])] [1])
 (.seq (.reg [Qm 16 1,
 Qo 17 (.bin .lss (.t 16) (.c (.d (.int .i64 0)))),
 Qm 15 17] [0,1,2,15])
 (.cond (.t 15) (.reg [Qm 18 0,
 Qo 19 (.call 52 [(.t 18),(.c (.d (.str [32,45,32])))])] [1])
 (.seq (.reg [Qm 21 2,
 Qo 22 (.un .not (.t 21)),
 Qm 20 22] [0,1,20])
 (.cond (.t 20) (.reg [Qm 23 0,
 Qo 24 (.call 52 [(.t 23),(.c (.d (.str [32,43,32])))])] [1])
 .skip)))))))
 (.seq (.reg [Qm 25 1,
 Qm 26 1,
 Qo 27 (.un .neg (.t 26)),
 Qo 28 (.mm true (.t 25) (.t 27)),
 Qm 6 28] [6])
 .ret)))
noncomputable def DZ:Cx:=⟨Tryd.prog,51,Tryd.f51,29,[],[],[.t 6]⟩
theorem DP:Good DZ:=⟨Tryd.func51,by kernel_rfl⟩
theorem LZ:DZ.rs=[.t 6]:=rfl
theorem Ls (hl:args.length≤29) (h:Run DZ K [.code H7] (B0 args) E σ):AM Tryd.prog 51 args σ K:=
 AT (cx:=DZ) (code:=Tryd.f51.body.getD .skip) DP (by kernel_rfl) Tryd.ntmps51 hl (AU DZ _ (Bo H7) _ [] (by kernel_rfl)) h
def C6:C:=(.seq (.reg [Qo 4 (.mv (.c (.d (.int .i64 0)))),
 Qo 5 (.mv (.c .undef))] [0,1])
 (.seq (.reg [Qm 6 0,
 Qo 7 (.call 82 [(.t 6)])] [0,1])
 (.seq (.reg [Qm 8 0,
 Qm 9 0,
 Qo 10 (.nck (.t 9)),
 Qo 11 (.fld (.t 10) 1),
 Qo 12 (.ld (.t 11) none),
 Qm 13 1,
 Qo 14 (.ex (.apps 5) [(.t 12),(.t 13)]),
 Qo 15 (.nck (.t 8)),
 Qo 16 (.fld (.t 15) 1),
 ⟨none,.st (.t 16) (.t 14) 1,none⟩] [1])
 (.seq (.reg [Qm 17 1,
 Qo 18 (.P1 (.t 17)),
 Qm 4 18,
 Qo 5 (.mv (.c .undef))] [4,5])
 .ret))))
noncomputable def BB:Cx:=⟨Tryd.prog,52,Tryd.f52,19,[],[],[.t 4,.t 5]⟩
theorem C7:Good BB:=⟨Tryd.func52,by kernel_rfl⟩
theorem EA:BB.rs=[.t 4,.t 5]:=rfl
theorem EG (hl:args.length≤19) (h:Run BB K [.code C6] (B0 args) E σ):AM Tryd.prog 52 args σ K:=
 AT (cx:=BB) (code:=Tryd.f52.body.getD .skip) C7 (by kernel_rfl) Tryd.ntmps52 hl (AU BB _ (Bo C6) _ [] (by kernel_rfl)) h
def DO:C:=(.seq (.reg [Qo 2 (.mv (.c (.d (.str []))))] [0])
 (.seq (.reg [Qm 3 0,
 Qo 4 (.nck (.t 3)),
 Qo 5 (.fld (.t 4) 1),
 Qo 6 (.ld (.t 5) none),
 Qo 7 (.ex .usd [(.t 6)]),
 Qm 8 0,
 Qo 9 (.nck (.t 8)),
 Qo 10 (.fld (.t 9) 1),
 Qo 11 (.ld (.t 10) none),
 Qo 12 (.len (.t 11)),
 Qo 13 (.ex (.OR 5) [(.t 7),(.t 12)]),
 Qm 2 13] [2])
 .ret))
noncomputable def BY:Cx:=⟨Tryd.prog,55,Tryd.f55,14,[],[],[.t 2]⟩
theorem DQ:Good BY:=⟨Tryd.func55,by kernel_rfl⟩
theorem FI:BY.rs=[.t 2]:=rfl
theorem F1 (hl:args.length≤14) (h:Run BY K [.code DO] (B0 args) E σ):AM Tryd.prog 55 args σ K:=
 AT (cx:=BY) (code:=Tryd.f55.body.getD .skip) DQ (by kernel_rfl) Tryd.ntmps55 hl (AU BY _ (Bo DO) _ [] (by kernel_rfl)) h
def HV:C:=(.seq (.seq (.reg [Qm 26 8,
 Qm 27 7,
 Qo 28 (.len (.t 27)),
 Qo 29 (.bin .lss (.t 26) (.t 28)),
 Qm 30 29,
 ⟨some 31,.mv (.t 7),some (30,true)⟩,
 ⟨some 32,.mv (.t 8),some (30,true)⟩,
 ⟨some 33,.ix (.t 31) (.t 32) 2,some (30,true)⟩,
 ⟨some 34,.fld (.t 33) 0,some (30,true)⟩,
 ⟨some 35,.ld (.t 34) none,some (30,true)⟩,
 ⟨some 36,.fld (.t 9) 0,some (30,true)⟩,
 ⟨some 37,.ldl (.t 36) none,some (30,true)⟩,
 ⟨some 38,.bin .eql (.t 35) (.t 37),some (30,true)⟩,
 Qo 39 (.pick (.t 30) (.t 38) (.c (.d (.bool false))))] [4,6,7,8,9,39])
 (.cond (.t 39) .skip
 (.exit 2)))
 (.seq (.block 3 (.reg [Qo 42 (.fld (.t 9) 1),
 Qo 43 (.ldl (.t 42) none),
 Qm 44 7,
 Qm 45 8,
 Qo 46 (.ix (.t 44) (.t 45) 2),
 Qo 47 (.fld (.t 46) 1),
 Qo 48 (.ld (.t 47) none),
 Qo 49 (.bin .add (.t 43) (.t 48)),
 Qo 50 (.fld (.t 9) 1),
 ⟨none,.st (.t 50) (.t 49) 1,none⟩] [4,6,7,8,9]))
 (.reg [Qm 40 8,
 Qo 41 (.bin .add (.t 40) (.c (.d (.int .i64 1)))),
 Qm 8 41] [4,6,7,8,9])))
def HW:C:=(.seq (.seq (.reg [Qm 16 8,
 Qm 17 7,
 Qo 18 (.len (.t 17)),
 Qo 19 (.bin .lss (.t 16) (.t 18))] [4,6,7,8,19])
 (.cond (.t 19) .skip
 (.exit 0)))
 (.block 1 (.seq (.reg [Qm 20 7,
 Qm 21 8,
 Qo 22 (.ix (.t 20) (.t 21) 2),
 Qo 23 (.fld (.t 22) 0),
 Qo 24 (.ld (.t 23) none),
 Qo 25 (.bld [(.d (.int .i64 0)),(.d (.int .i64 0))] [(0,1,(.t 24))]),
 Qo 9 (.al [(.d (.int .i64 0)),(.d (.int .i64 0))] false),
 ⟨none,.st (.t 9) (.t 25) 2,none⟩] [4,6,7,8,9])
 (.seq (.block 2 (.loop HV))
 (.seq (.reg [Qo 51 (.fld (.t 9) 1),
 Qo 52 (.ldl (.t 51) none),
 Qo 53 (.bin .neq (.t 52) (.c (.d (.int .i64 0))))] [4,6,7,8,9,53])
 (.cond (.t 53) (.reg [Qo 54 (.fld (.t 6) 1),
 Qo 55 (.ldl (.t 54) none),
 Qo 56 (.ldl (.t 9) (some 2)),
 Qo 57 (.bsl 2 1 [(.d (.int .i64 0)),(.d (.int .i64 0))] [(0,2,(.t 56))]),
 Qo 58 (.app 49 2 16 (.t 55) (.t 57)),
 Qo 59 (.fld (.t 6) 1),
 ⟨none,.st (.t 59) (.t 58) 1,none⟩] [4,6,7,8])
 .skip))))))
def Fb:C:=(.seq (.reg [Qo 4 (.al [(.d (.int .i64 0)),.A7] false),
 Qo 5 (.mv (.c (.d (.int .i64 0))))] [0,1,4])
 (.seq (.reg [Qm 10 0,
 Qo 11 (.bld [(.d (.int .i64 0)),.A7] [(0,1,(.t 10))]),
 Qo 6 (.al [(.d (.int .i64 0)),.A7] false),
 ⟨none,.st (.t 6) (.t 11) 2,none⟩] [1,4,6])
 (.seq (.reg [Qm 12 1,
 Qo 13 (.call 85 [(.t 12)]),
 Qm 7 13] [4,6,7])
 (.seq (.reg [Qm 14 7,
 Qo 15 (.call 86 [(.t 14),(.c (.fn 87 [] []))])] [4,6,7])
 (.seq (.seq (.reg [Qo 8 (.mv (.c (.d (.int .i64 0))))] [4,6,7,8])
 (.block 0 (.loop HW)))
 (.seq (.seq (.reg [Qo 60 (.ldl (.t 6) (some 2)),
 Qo 61 (.call 35 [(.t 60)]),
 Qo 62 (.un .not (.t 61))] [4,6,62])
 (.cond (.t 62) (.seq (.reg [Qo 63 (.bld [(.d (.int .i64 0)),.A7] []),
 ⟨none,.st (.t 4) (.t 63) 2,none⟩,
 Qo 5 (.mv (.c (.d (.int .i64 9))))] [4,5])
 .ret)
 .skip))
 (.seq (.reg [Qo 64 (.ldl (.t 6) (some 2)),
 ⟨none,.st (.t 4) (.t 64) 2,none⟩,
 Qo 5 (.mv (.c (.d (.int .i64 0))))] [4,5])
 .ret)))))))
noncomputable def C2:Cx:=⟨Tryd.prog,57,Tryd.f57,65,[300037,300043,300052,300055,300056,300060,300064],[],[.c 4 (some 2),.t 5]⟩
theorem CZ:Good C2:=⟨Tryd.func57,by kernel_rfl⟩
theorem It:C2.rs=[.c 4 (some 2),.t 5]:=rfl
theorem JO (hl:args.length≤65) (h:Run C2 K [.code Fb] (B0 args) E σ):AM Tryd.prog 57 args σ K:=
 AT (cx:=C2) (code:=Tryd.f57.body.getD .skip) CZ (by kernel_rfl) Tryd.ntmps57 hl (AU C2 _ (Bo Fb) _ [] (by kernel_rfl)) h
def Dv:C:=(.seq (.reg [Qo 12 (.bin .lss (.t 11) (.t 10))] [0,3,9,10,11,12])
 (.seq (.cond (.t 12) .skip
 (.exit 0))
 (.seq (.block 1 (.seq (.reg [Qo 13 (.ix (.t 9) (.t 11) 1),
 Qo 14 (.ld (.t 13) none),
 Qm 5 14] [0,3,5,9,10,11])
 (.seq (.reg [Qm 15 3,
 Qm 16 5,
 Qo 17 (.len (.t 16)),
 Qo 18 (.bin .add (.t 15) (.t 17)),
 Qm 3 18] [0,3,9,10,11])
 (.seq (.reg [Qm 19 3,
 Qo 20 (.bin .lss (.t 19) (.c (.d (.int .i64 0))))] [0,3,9,10,11,20])
 (.cond (.t 20) .bad
 .skip)))))
 (.reg [Qo 22 (.bin .add (.t 11) (.c (.d (.int .i64 1)))),
 Qm 11 22] [0,3,9,10,11]))))
def Dw:C:=(.seq (.reg [Qo 28 (.bin .lss (.t 27) (.t 26))] [6,25,26,27,28])
 (.seq (.cond (.t 28) .skip
 (.exit 2))
 (.seq (.block 3 (.seq (.reg [Qo 29 (.ix (.t 25) (.t 27) 1),
 Qo 30 (.ld (.t 29) none),
 Qm 8 30] [6,8,25,26,27])
 (.reg [Qm 31 6,
 Qm 32 8,
 Qo 33 (.Jz 49 2 16 (.t 31) (.t 32)),
 Qm 6 33] [6,25,26,27])))
 (.reg [Qo 34 (.bin .add (.t 27) (.c (.d (.int .i64 1)))),
 Qm 27 34] [6,25,26,27]))))
def E3:C:=(.seq (.reg [Qo 2 (.mv (.c .A7))] [0])
 (.seq (.reg [Qo 3 (.mv (.c (.d (.int .i64 0))))] [0,3])
 (.seq (.seq (.reg [Qm 9 0,
 Qo 10 (.len (.t 9)),
 Qo 11 (.mv (.c (.d (.int .i64 0))))] [0,3,9,10,11])
 (.block 0 (.loop Dv)))
 (.seq (.reg [Qm 23 3,
 Qo 24 (.call 88 [(.c .A7),(.t 23)]),
 Qm 6 24] [0,6])
 (.seq (.seq (.reg [Qm 25 0,
 Qo 26 (.len (.t 25)),
 Qo 27 (.mv (.c (.d (.int .i64 0))))] [6,25,26,27])
 (.block 2 (.loop Dw)))
 (.seq (.reg [Qm 35 6,
 Qm 2 35] [2])
 .ret))))))
def Ef:List (List Nat×PT):=[([0],.done),([0,3],.done),([0,3,9,10,11],.done),([0,3,9,10,11,12],.done),([0,3,5,9,10,11],.done),([0,3,9,10,11],.done),([0,3,9,10,11,20],.done),([],.done),([0,3,9,10,11],.done),([0,6],.done),([6,25,26,27],.done),([6,25,26,27,28],.done),([6,8,25,26,27],.done),([6,25,26,27],.done),([6,25,26,27],.done),([2],.done)]
noncomputable def BI:Cx:=⟨Tryd.prog,58,Tryd.f58,36,[33],[],[.t 2]⟩
theorem Co:Good BI:=⟨Tryd.func58,by kernel_rfl⟩
theorem EW:BI.rs=[.t 2]:=rfl
theorem E9 (hl:args.length≤36) (h:Run BI K [.code E3] (B0 args) E σ):AM Tryd.prog 58 args σ K:=
 AT (cx:=BI) (code:=Tryd.f58.body.getD .skip) Co (by kernel_rfl) Tryd.ntmps58 hl (AU BI _ Ef _ [] (by kernel_rfl)) h
def IY:C:=(.seq (.reg [Qo 12 (.bin .lss (.t 11) (.t 10))] [1,5,10,11,12])
 (.seq (.cond (.t 12) .skip
 (.exit 0))
 (.seq (.block 1 (.seq (.reg [Qm 13 11,
 Qm 6 13] [1,5,6,10,11])
 (.reg [Qm 14 5,
 Qm 15 6,
 Qo 16 (.ix (.t 14) (.t 15) 2),
 Qo 17 (.fld (.t 16) 1),
 Qo 18 (.ld (.t 17) none),
 Qm 19 1,
 Qo 20 (.bin .mul (.t 18) (.t 19)),
 Qo 21 (.ix (.t 14) (.t 15) 2),
 Qo 22 (.fld (.t 21) 1),
 ⟨none,.st (.t 22) (.t 20) 1,none⟩] [1,5,10,11])))
 (.reg [Qo 23 (.bin .add (.t 11) (.c (.d (.int .i64 1)))),
 Qm 11 23] [1,5,10,11]))))
def G4:C:=(.seq (.reg [Qo 4 (.mv (.c .A7))] [0,1])
 (.seq (.reg [Qm 7 0,
 Qo 8 (.call 85 [(.t 7)]),
 Qm 5 8] [1,5])
 (.seq (.seq (.reg [Qm 9 5,
 Qo 10 (.len (.t 9)),
 Qo 11 (.mv (.c (.d (.int .i64 0))))] [1,5,10,11])
 (.block 0 (.loop IY)))
 (.seq (.reg [Qm 24 5,
 Qm 4 24] [4])
 .ret))))
noncomputable def DC:Cx:=⟨Tryd.prog,61,Tryd.f61,25,[],[],[.t 4]⟩
theorem Es:Good DC:=⟨Tryd.func61,by kernel_rfl⟩
theorem KL:DC.rs=[.t 4]:=rfl
theorem LC (hl:args.length≤25) (h:Run DC K [.code G4] (B0 args) E σ):AM Tryd.prog 61 args σ K:=
 AT (cx:=DC) (code:=Tryd.f61.body.getD .skip) Es (by kernel_rfl) Tryd.ntmps61 hl (AU DC _ (Bo G4) _ [] (by kernel_rfl)) h
def FN:C:=(.seq (.reg [Qo 4 (.mv (.c (.d (.int .i64 0))))] [0,1])
 (.seq (.reg [Qm 7 0,
 Qo 8 (.call 89 [(.t 7)]),
 Qm 5 8] [0,1,5])
 (.seq (.reg [Qm 9 1,
 Qo 10 (.call 89 [(.t 9)]),
 Qm 6 10] [0,1,5,6])
 (.seq (.seq (.reg [Qm 11 5] [0,1,6,11])
 (.cond (.t 11) (.seq (.seq (.reg [Qm 12 6] [12])
 (.cond (.t 12) (.seq (.reg [Qo 4 (.mv (.c (.d (.int .i64 0))))] [4])
 .ret)
 .skip))
 (.seq (.reg [Qo 4 (.mv (.c (.d (.int .i64 (-1)))))] [4])
 .ret))
 .skip))
 (.seq (.seq (.reg [Qm 13 6] [0,1,13])
 (.cond (.t 13) (.seq (.reg [Qo 4 (.mv (.c (.d (.int .i64 1))))] [4])
 .ret)
 .skip))
 (.seq (.seq (.reg [Qm 14 0,
 Qm 15 1,
 Qo 16 (.bin .lss (.t 14) (.t 15))] [0,1,16])
 (.cond (.t 16) (.seq (.reg [Qo 4 (.mv (.c (.d (.int .i64 (-1)))))] [4])
 .ret)
 .skip))
 (.seq (.seq (.reg [Qm 17 0,
 Qm 18 1,
 Qo 19 (.bin .gtr (.t 17) (.t 18))] [19])
 (.cond (.t 19) (.seq (.reg [Qo 4 (.mv (.c (.d (.int .i64 1))))] [4])
 .ret)
 .skip))
 (.seq (.reg [Qo 4 (.mv (.c (.d (.int .i64 0))))] [4])
 .ret))))))))
noncomputable def CL:Cx:=⟨Tryd.prog,64,Tryd.f64,20,[],[],[.t 4]⟩
theorem Cm:Good CL:=⟨Tryd.func64,by kernel_rfl⟩
theorem Hz:CL.rs=[.t 4]:=rfl
theorem Ie (hl:args.length≤20) (h:Run CL K [.code FN] (B0 args) E σ):AM Tryd.prog 64 args σ K:=
 AT (cx:=CL) (code:=Tryd.f64.body.getD .skip) Cm (by kernel_rfl) Tryd.ntmps64 hl (AU CL _ (Bo FN) _ [] (by kernel_rfl)) h
def Cs:C:=(.seq (.reg [Qo 2 (.mv (.c .A7))] [0])
 (.seq (.seq (.reg [Qm 3 0,
 Qo 4 (.ex (.L7 false) [(.t 3)])] [0,4])
 (.cond (.t 4) (.seq (.reg [Qo 2 (.mv (.c .A7))] [2])
 .ret)
 .skip))
 (.seq (.reg [Qo 5 (.K6 49 2 0 [] []),
 Qm 6 0,
 Qo 7 (.Jz 49 2 16 (.t 5) (.t 6)),
 Qm 2 7] [2])
 .ret)))
noncomputable def BP:Cx:=⟨Tryd.prog,85,Tryd.f85,8,[5,7],[],[.t 2]⟩
theorem Bw:Good BP:=⟨Tryd.func85,by kernel_rfl⟩
theorem Ee:BP.rs=[.t 2]:=rfl
theorem Et (hl:args.length≤8) (h:Run BP K [.code Cs] (B0 args) E σ):AM Tryd.prog 85 args σ K:=
 AT (cx:=BP) (code:=Tryd.f85.body.getD .skip) Bw (by kernel_rfl) Tryd.ntmps85 hl (AU BP _ (Bo Cs) _ [] (by kernel_rfl)) h
def FG:C:=(.seq (.reg [Qo 4 (.mv (.c .A7))] [0,1])
 (.seq (.seq (.reg [Qm 5 1,
 Qo 6 (.bin .lss (.t 5) (.c (.d (.int .i64 0))))] [0,1,6])
 (.cond (.t 6) .bad
 .skip))
 (.seq (.seq (.reg [Qm 8 1,
 Qm 9 0,
 Qo 10 (.ex .cap [(.t 9)]),
 Qm 11 0,
 Qo 12 (.len (.t 11)),
 Qo 13 (.bin .sub (.t 10) (.t 12)),
 Qo 14 (.bin .sub (.t 8) (.t 13)),
 Qm 1 14] [0,1])
 (.seq (.reg [Qm 15 1,
 Qo 16 (.bin .gtr (.t 15) (.c (.d (.int .i64 0))))] [0,1,16])
 (.cond (.t 16) (.reg [Qm 17 0,
 Qm 18 0,
 Qo 19 (.ex .cap [(.t 18)]),
 Qo 20 (.sls (.t 17) none (some (.t 19)) none 2),
 Qm 21 1,
 Qo 22 (.ex (.N0 49 2 16 [(.d (.int .i64 0)),(.d (.int .i64 0))]) [(.t 20),(.t 21)]),
 Qm 23 0,
 Qo 24 (.len (.t 23)),
 Qo 25 (.trn (.t 22) (.t 24)),
 Qm 0 25] [0])
 .skip)))
 (.seq (.reg [Qm 26 0,
 Qm 4 26] [4])
 .ret))))
def FJ:List (List Nat×PT):=[([0,1],.done),([0,1,6],.done),([],.done),([0,1],.done),([0,1,16],.done),([0],.done),([4],.done)]
noncomputable def BT:Cx:=⟨Tryd.prog,88,Tryd.f88,27,[25],[],[.t 4]⟩
theorem CD:Good BT:=⟨Tryd.func88,by kernel_rfl⟩
theorem Ey:BT.rs=[.t 4]:=rfl
theorem FH (hl:args.length≤27) (h:Run BT K [.code FG] (B0 args) E σ):AM Tryd.prog 88 args σ K:=
 AT (cx:=BT) (code:=Tryd.f88.body.getD .skip) CD (by kernel_rfl) Tryd.ntmps88 hl (AU BT _ FJ _ [] (by kernel_rfl)) h
def GM:C:=(.seq (.reg [Qo 2 (.mv (.c (.d (.bool false))))] [0])
 (.seq (.reg [Qm 3 0,
 Qm 4 0,
 Qo 5 (.bin .neq (.t 3) (.t 4)),
 Qm 2 5] [2])
 .ret))
noncomputable def Ce:Cx:=⟨Tryd.prog,89,Tryd.f89,6,[],[],[.t 2]⟩
theorem GO:Good Ce:=⟨Tryd.func89,by kernel_rfl⟩
theorem JX:Ce.rs=[.t 2]:=rfl
theorem KB (hl:args.length≤6) (h:Run Ce K [.code GM] (B0 args) E σ):AM Tryd.prog 89 args σ K:=
 AT (cx:=Ce) (code:=Tryd.f89.body.getD .skip) GO (by kernel_rfl) Tryd.ntmps89 hl (AU Ce _ (Bo GM) _ [] (by kernel_rfl)) h
attribute [go_sem] KG KH IC LX LY JY MC MD KI OH KJ ID LZ EA FI It EW KL Hz Ee Ey JX
end Go.Ab
