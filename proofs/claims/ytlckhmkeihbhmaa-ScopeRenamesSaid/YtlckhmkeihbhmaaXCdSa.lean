/- The compact codes of the functions of this seat, computed out of the translation. Conditions: none. -/
import Derived.Test.YtlckhmkeihbhmaaProg
import Derived.KernelRfl
import Derived.Test.YtlckhmkeihbhmaaXUj
set_option linter.unusedSimpArgs false
namespace Go.Ab
open Go.Proofs
variable {args : List AV} {σ : Heap} {K : AV → Heap → Prop}
def c_scope_Check_L0 : C := (.seq (.reg [⟨some 26,.bin .lss (.t 25) (.t 24),none⟩] [1,2,5,23,24,25,26])
 (.seq (.cond (.t 26) .skip
 (.exit 0))
 (.seq (.block 1 (.seq (.reg [⟨some 27,.mv (.t 25),none⟩,
 ⟨some 28,.ix (.t 23) (.t 25) 8,none⟩,
 ⟨some 29,.ld (.t 28) (some 8),none⟩,
 ⟨some 7,.al [(.d (.str [])),.nils,(.d (.int .i64 0)),(.d (.str [])),(.d (.int .i64 0)),.nils,.nils,.nils] false,none⟩,
 ⟨some 6,.mv (.t 27),none⟩,
 ⟨none,.st (.t 7) (.t 29) 8,none⟩] [1,2,5,6,7,23,24,25])
 (.seq (.seq (.reg [⟨some 30,.ldl (.t 1) (some 2),none⟩,
 ⟨some 31,.fld (.t 7) 0,none⟩,
 ⟨some 32,.ldl (.t 31) none,none⟩,
 ⟨some 33,.call 26 [(.t 30),(.t 32)],none⟩,
 ⟨some 34,.mv (.t 6),none⟩,
 ⟨some 35,.bin .lss (.t 33) (.t 34),none⟩,
 ⟨some 36,.mv (.t 35),none⟩,
 ⟨some 37,.fld (.t 7) 1,some (36,false)⟩,
 ⟨some 38,.ldl (.t 37) none,some (36,false)⟩,
 ⟨some 39,.call 27 [(.t 38)],some (36,false)⟩,
 ⟨some 40,.pick (.t 36) (.c (.d (.bool true))) (.t 39),none⟩] [1,2,5,6,7,23,24,25,40])
 (.cond (.t 40) (.seq (.reg [⟨some 41,.mv (.t 6),none⟩,
 ⟨some 42,.bld [(.d (.int .i64 0)),(.d (.int .i64 0)),(.d (.int .i64 0))] [(0,1,(.c (.d (.int .i64 4)))),(1,1,(.t 41))],none⟩,
 ⟨none,.st (.t 2) (.t 42) 3,none⟩] [2])
 .ret)
 .skip))
 (.seq (.reg [⟨some 44,.ldl (.t 7) (some 8),none⟩,
 ⟨some 45,.ldl (.t 5) (some 3),none⟩,
 ⟨some 46,.mkf 29 [(.t 45)] [],none⟩,
 ⟨some 47,.call 28 [(.t 44),(.t 46)],none⟩,
 ⟨some 43,.mv (.t 47),none⟩,
 ⟨some 48,.ext (.t 43) 0,none⟩,
 ⟨some 49,.ext (.t 43) 1,none⟩,
 ⟨some 8,.mv (.t 48),none⟩,
 ⟨some 9,.mv (.t 49),none⟩] [1,2,5,6,8,9,23,24,25])
 (.seq (.reg [⟨some 50,.mv (.t 9),none⟩,
 ⟨some 51,.bin .neq (.t 50) (.c (.d (.int .i64 0))),none⟩] [1,2,5,6,8,9,23,24,25,51])
 (.cond (.t 51) (.seq (.reg [⟨some 52,.mv (.t 9),none⟩,
 ⟨some 53,.mv (.t 6),none⟩,
 ⟨some 54,.mv (.t 8),none⟩,
 ⟨some 55,.bld [(.d (.int .i64 0)),(.d (.int .i64 0)),(.d (.int .i64 0))] [(0,1,(.t 52)),(1,1,(.t 53)),(2,1,(.t 54))],none⟩,
 ⟨none,.st (.t 2) (.t 55) 3,none⟩] [2])
 .ret)
 .skip))))))
 (.reg [⟨some 56,.bin .add (.t 25) (.c (.d (.int .i64 1))),none⟩,
 ⟨some 25,.mv (.t 56),none⟩] [1,2,5,23,24,25]))))
def c_scope_Check : C := (.seq (.reg [⟨some 1,.box (.t 0) false,none⟩,
 ⟨some 2,.al [(.d (.int .i64 0)),(.d (.int .i64 0)),(.d (.int .i64 0))] false,none⟩] [1,2])
 (.seq (.reg [⟨some 11,.ldl (.t 1) (some 2),none⟩,
 ⟨some 12,.call 25 [(.t 11)],none⟩,
 ⟨some 10,.mv (.t 12),none⟩,
 ⟨some 13,.ext (.t 10) 0,none⟩,
 ⟨some 14,.ext (.t 10) 1,none⟩,
 ⟨some 4,.al [(.d (.int .i64 0)),(.d (.int .i64 0)),(.d (.int .i64 0))] false,none⟩,
 ⟨some 3,.mv (.t 13),none⟩,
 ⟨none,.st (.t 4) (.t 14) 3,none⟩] [1,2,3,4])
 (.seq (.seq (.reg [⟨some 15,.fld (.t 4) 0,none⟩,
 ⟨some 16,.ldl (.t 15) none,none⟩,
 ⟨some 17,.bin .neq (.t 16) (.c (.d (.int .i64 0))),none⟩] [1,2,3,4,17])
 (.cond (.t 17) (.seq (.reg [⟨some 18,.ldl (.t 4) (some 3),none⟩,
 ⟨none,.st (.t 2) (.t 18) 3,none⟩] [2])
 .ret)
 .skip))
 (.seq (.reg [⟨some 19,.ldl (.t 1) (some 2),none⟩,
 ⟨some 20,.mv (.t 3),none⟩,
 ⟨some 21,.bld [.nils,.nils,.nils] [(0,2,(.t 19)),(2,1,(.t 20))],none⟩,
 ⟨some 5,.al [.nils,.nils,.nils] false,none⟩,
 ⟨none,.st (.t 5) (.t 21) 3,none⟩] [1,2,5])
 (.seq (.seq (.reg [⟨some 22,.fld (.t 1) 1,none⟩,
 ⟨some 23,.ldl (.t 22) none,none⟩,
 ⟨some 24,.len (.t 23),none⟩,
 ⟨some 25,.mv (.c (.d (.int .i64 0))),none⟩] [1,2,5,23,24,25])
 (.block 0 (.loop c_scope_Check_L0)))
 (.seq (.reg [⟨some 57,.bld [(.d (.int .i64 0)),(.d (.int .i64 0)),(.d (.int .i64 0))] [],none⟩,
 ⟨none,.st (.t 2) (.t 57) 3,none⟩] [2])
 .ret))))))
noncomputable def x_scope_Check : Cx := ⟨Try.prog,8,Try.f8,58,[300011,300016,300018,300019,300023,300030,300032,300038,300044,300045],[],[.c 2 (some 3)]⟩
theorem g_scope_Check : Good x_scope_Check := ⟨Try.func8,by kernel_rfl⟩
theorem rs_scope_Check : x_scope_Check.rs = [.c 2 (some 3)] := rfl
theorem i_scope_Check (hl : args.length ≤ 58) (h : Run x_scope_Check K [.code c_scope_Check] (argF args) E σ) : ACalls Try.prog 8 args σ K :=
  acalls_of (cx := x_scope_Check) (code := Try.f8.body.getD .skip) g_scope_Check (by kernel_rfl) Try.ntmps8 hl (compC_rc x_scope_Check _ (ctOf c_scope_Check) _ [] (by kernel_rfl)) h
def c_scope_Calls_L0 : C := (.seq (.reg [⟨some 35,.bin .lss (.t 34) (.t 33),none⟩] [1,3,4,18,19,20,32,33,34,35])
 (.seq (.cond (.t 35) .skip
 (.exit 2))
 (.seq (.block 3 (.seq (.reg [⟨some 36,.mv (.t 34),none⟩,
 ⟨some 37,.ix (.t 32) (.t 34) 1,none⟩,
 ⟨some 38,.ld (.t 37) none,none⟩,
 ⟨some 7,.mv (.t 36),none⟩,
 ⟨some 8,.mv (.t 38),none⟩] [1,3,4,7,8,18,19,20,32,33,34])
 (.seq (.reg [⟨some 39,.mv (.t 8),none⟩] [1,3,4,7,18,19,20,32,33,34,39])
 (.cond (.t 39) (.reg [⟨some 40,.mv (.t 3),none⟩,
 ⟨some 41,.mv (.t 4),none⟩,
 ⟨some 42,.mv (.t 3),none⟩,
 ⟨some 43,.mv (.t 4),none⟩,
 ⟨some 44,.ix (.t 42) (.t 43) 1,none⟩,
 ⟨some 45,.ld (.t 44) none,none⟩,
 ⟨some 46,.mv (.t 7),none⟩,
 ⟨some 47,.bsl 1 1 [(.d (.int .i64 0))] [(0,1,(.t 46))],none⟩,
 ⟨some 48,.app 3 1 8 (.t 45) (.t 47),none⟩,
 ⟨some 49,.ix (.t 40) (.t 41) 1,none⟩,
 ⟨none,.st (.t 49) (.t 48) 1,none⟩] [1,3,4,18,19,20,32,33,34])
 .skip))))
 (.reg [⟨some 50,.bin .add (.t 34) (.c (.d (.int .i64 1))),none⟩,
 ⟨some 34,.mv (.t 50),none⟩] [1,3,4,18,19,20,32,33,34]))))
def c_scope_Calls_L1 : C := (.seq (.reg [⟨some 21,.bin .lss (.t 20) (.t 19),none⟩] [1,3,18,19,20,21])
 (.seq (.cond (.t 21) .skip
 (.exit 0))
 (.seq (.block 1 (.seq (.reg [⟨some 22,.mv (.t 20),none⟩,
 ⟨some 23,.ix (.t 18) (.t 20) 8,none⟩,
 ⟨some 24,.ld (.t 23) (some 8),none⟩,
 ⟨some 5,.al [(.d (.str [])),.nils,(.d (.int .i64 0)),(.d (.str [])),(.d (.int .i64 0)),.nils,.nils,.nils] false,none⟩,
 ⟨some 4,.mv (.t 22),none⟩,
 ⟨none,.st (.t 5) (.t 24) 8,none⟩] [1,3,4,5,18,19,20])
 (.seq (.reg [⟨some 25,.fld (.t 1) 1,none⟩,
 ⟨some 26,.ld (.t 25) none,none⟩,
 ⟨some 27,.len (.t 26),none⟩,
 ⟨some 28,.msl 4 1 1 [(.d (.bool false))] (.t 27) (.t 27),none⟩,
 ⟨some 6,.ex (.alt 78 [.nils]) [],none⟩,
 ⟨none,.st (.t 6) (.t 28) 1,none⟩] [1,3,4,5,6,18,19,20])
 (.seq (.reg [⟨some 29,.ldl (.t 5) (some 8),none⟩,
 ⟨some 30,.mkf 31 [] [(.t 6),(.t 1)],none⟩,
 ⟨some 31,.call 28 [(.t 29),(.t 30)],none⟩] [1,3,4,6,18,19,20])
 (.seq (.reg [⟨some 32,.ld (.t 6) none,none⟩,
 ⟨some 33,.len (.t 32),none⟩,
 ⟨some 34,.mv (.c (.d (.int .i64 0))),none⟩] [1,3,4,18,19,20,32,33,34])
 (.block 2 (.loop c_scope_Calls_L0)))))))
 (.reg [⟨some 51,.bin .add (.t 20) (.c (.d (.int .i64 1))),none⟩,
 ⟨some 20,.mv (.t 51),none⟩] [1,3,18,19,20]))))
def c_scope_Calls : C := (.seq (.reg [⟨some 1,.box (.t 0) true,none⟩,
 ⟨some 2,.mv (.c .nils),none⟩] [1])
 (.seq (.seq (.reg [⟨some 9,.ld (.t 1) (some 2),none⟩,
 ⟨some 10,.call 8 [(.t 9)],none⟩,
 ⟨some 11,.fd (.t 10) 0 none,none⟩,
 ⟨some 12,.bin .neq (.t 11) (.c (.d (.int .i64 0))),none⟩] [1,12])
 (.cond (.t 12) (.seq (.reg [⟨some 2,.mv (.c .nils),none⟩] [2])
 .ret)
 .skip))
 (.seq (.reg [⟨some 13,.fld (.t 1) 1,none⟩,
 ⟨some 14,.ld (.t 13) none,none⟩,
 ⟨some 15,.len (.t 14),none⟩,
 ⟨some 16,.msl 77 1 24 [.nils] (.t 15) (.t 15),none⟩,
 ⟨some 3,.mv (.t 16),none⟩] [1,3])
 (.seq (.seq (.reg [⟨some 17,.fld (.t 1) 1,none⟩,
 ⟨some 18,.ld (.t 17) none,none⟩,
 ⟨some 19,.len (.t 18),none⟩,
 ⟨some 20,.mv (.c (.d (.int .i64 0))),none⟩] [1,3,18,19,20])
 (.block 0 (.loop c_scope_Calls_L1)))
 (.seq (.reg [⟨some 52,.mv (.t 3),none⟩,
 ⟨some 2,.mv (.t 52),none⟩] [2])
 .ret)))))
noncomputable def x_scope_Calls : Cx := ⟨Try.prog,10,Try.f10,53,[1,6,300029],[],[.t 2]⟩
theorem g_scope_Calls : Good x_scope_Calls := ⟨Try.func10,by kernel_rfl⟩
theorem rs_scope_Calls : x_scope_Calls.rs = [.t 2] := rfl
theorem i_scope_Calls (hl : args.length ≤ 53) (h : Run x_scope_Calls K [.code c_scope_Calls] (argF args) E σ) : ACalls Try.prog 10 args σ K :=
  acalls_of (cx := x_scope_Calls) (code := Try.f10.body.getD .skip) g_scope_Calls (by kernel_rfl) Try.ntmps10 hl (compC_rc x_scope_Calls _ (ctOf c_scope_Calls) _ [] (by kernel_rfl)) h
def c_scope_Data_L0 : C := (.seq (.reg [⟨some 18,.bin .lss (.t 17) (.t 16),none⟩] [3,4,15,16,17,18])
 (.seq (.cond (.t 18) .skip
 (.exit 0))
 (.seq (.block 1 (.seq (.reg [⟨some 19,.mv (.t 17),none⟩,
 ⟨some 20,.ix (.t 15) (.t 17) 3,none⟩,
 ⟨some 21,.ld (.t 20) (some 3),none⟩,
 ⟨some 6,.al [(.d (.str [])),.nils,.nils] false,none⟩,
 ⟨some 5,.mv (.t 19),none⟩,
 ⟨none,.st (.t 6) (.t 21) 3,none⟩] [3,4,5,6,15,16,17])
 (.seq (.reg [⟨some 22,.mv (.t 4),none⟩,
 ⟨some 23,.ldl (.t 6) (some 3),none⟩,
 ⟨some 24,.call 36 [(.t 22),(.t 23)],none⟩,
 ⟨some 7,.mv (.t 24),none⟩] [3,4,5,7,15,16,17])
 (.seq (.reg [⟨some 25,.mv (.t 7),none⟩,
 ⟨some 26,.bin .neq (.t 25) (.c (.d (.int .i64 0))),none⟩] [3,4,5,7,15,16,17,26])
 (.cond (.t 26) (.seq (.reg [⟨some 27,.mv (.t 7),none⟩,
 ⟨some 28,.mv (.t 5),none⟩,
 ⟨some 29,.bld [(.d (.int .i64 0)),(.d (.int .i64 0)),(.d (.int .i64 0))] [(0,1,(.t 27)),(1,1,(.c (.d (.int .i64 (-1))))),(2,1,(.t 28))],none⟩,
 ⟨some 2,.mv (.c .nils),none⟩,
 ⟨none,.st (.t 3) (.t 29) 3,none⟩] [2,3])
 .ret)
 .skip)))))
 (.reg [⟨some 30,.bin .add (.t 17) (.c (.d (.int .i64 1))),none⟩,
 ⟨some 17,.mv (.t 30),none⟩] [3,4,15,16,17]))))
def c_scope_Data : C := (.seq (.reg [⟨some 1,.box (.t 0) false,none⟩,
 ⟨some 2,.mv (.c .nils),none⟩,
 ⟨some 3,.al [(.d (.int .i64 0)),(.d (.int .i64 0)),(.d (.int .i64 0))] false,none⟩] [1,3])
 (.seq (.seq (.reg [⟨some 8,.ldl (.t 1) (some 2),none⟩,
 ⟨some 9,.call 35 [(.t 8)],none⟩,
 ⟨some 10,.un .not (.t 9),none⟩] [1,3,10])
 (.cond (.t 10) (.seq (.reg [⟨some 11,.bld [(.d (.int .i64 0)),(.d (.int .i64 0)),(.d (.int .i64 0))] [(0,1,(.c (.d (.int .i64 1)))),(1,1,(.c (.d (.int .i64 (-1)))))],none⟩,
 ⟨some 2,.mv (.c .nils),none⟩,
 ⟨none,.st (.t 3) (.t 11) 3,none⟩] [2,3])
 .ret)
 .skip))
 (.seq (.reg [⟨some 12,.bld [.nils,(.d (.str [])),.nils,.nils] [],none⟩,
 ⟨some 13,.box (.t 12) true,none⟩,
 ⟨some 4,.mv (.t 13),none⟩] [1,3,4])
 (.seq (.seq (.reg [⟨some 14,.fld (.t 1) 0,none⟩,
 ⟨some 15,.ldl (.t 14) none,none⟩,
 ⟨some 16,.len (.t 15),none⟩,
 ⟨some 17,.mv (.c (.d (.int .i64 0))),none⟩] [3,4,15,16,17])
 (.block 0 (.loop c_scope_Data_L0)))
 (.seq (.reg [⟨some 31,.mv (.t 4),none⟩,
 ⟨some 32,.nck (.t 31),none⟩,
 ⟨some 33,.fld (.t 32) 0,none⟩,
 ⟨some 34,.ld (.t 33) none,none⟩,
 ⟨some 35,.bld [(.d (.int .i64 0)),(.d (.int .i64 0)),(.d (.int .i64 0))] [],none⟩,
 ⟨some 2,.mv (.t 34),none⟩,
 ⟨none,.st (.t 3) (.t 35) 3,none⟩] [2,3])
 .ret)))))
noncomputable def x_scope_Data : Cx := ⟨Try.prog,25,Try.f25,36,[13,300008,300015,300023],[],[.t 2,.c 3 (some 3)]⟩
theorem g_scope_Data : Good x_scope_Data := ⟨Try.func25,by kernel_rfl⟩
theorem rs_scope_Data : x_scope_Data.rs = [.t 2,.c 3 (some 3)] := rfl
theorem i_scope_Data (hl : args.length ≤ 36) (h : Run x_scope_Data K [.code c_scope_Data] (argF args) E σ) : ACalls Try.prog 25 args σ K :=
  acalls_of (cx := x_scope_Data) (code := Try.f25.body.getD .skip) g_scope_Data (by kernel_rfl) Try.ntmps25 hl (compC_rc x_scope_Data _ (ctOf c_scope_Data) _ [] (by kernel_rfl)) h
def c_scope_function : C := (.seq (.reg [⟨some 2,.box (.t 0) false,none⟩,
 ⟨some 3,.box (.t 1) true,none⟩,
 ⟨some 4,.mv (.c (.d (.int .i64 0))),none⟩] [2,3])
 (.seq (.reg [⟨some 5,.fld (.t 2) 1,none⟩,
 ⟨some 6,.ldl (.t 5) none,none⟩,
 ⟨some 7,.mkf 38 [] [(.t 3)],none⟩,
 ⟨some 8,.call 37 [(.t 6),(.t 7)],none⟩,
 ⟨some 4,.mv (.t 8),none⟩] [4])
 .ret))
noncomputable def x_scope_function : Cx := ⟨Try.prog,26,Try.f26,9,[3,300006],[],[.t 4]⟩
theorem g_scope_function : Good x_scope_function := ⟨Try.func26,by kernel_rfl⟩
theorem rs_scope_function : x_scope_function.rs = [.t 4] := rfl
theorem i_scope_function (hl : args.length ≤ 9) (h : Run x_scope_function K [.code c_scope_function] (argF args) E σ) : ACalls Try.prog 26 args σ K :=
  acalls_of (cx := x_scope_function) (code := Try.f26.body.getD .skip) g_scope_function (by kernel_rfl) Try.ntmps26 hl (compC_rc x_scope_function _ (ctOf c_scope_function) _ [] (by kernel_rfl)) h
def c_scope_repeated_L0 : C := (.seq (.reg [⟨some 8,.bin .lss (.t 7) (.t 6),none⟩] [0,5,6,7,8])
 (.seq (.cond (.t 8) .skip
 (.exit 0))
 (.seq (.block 1 (.seq (.reg [⟨some 9,.mv (.t 7),none⟩,
 ⟨some 10,.ix (.t 5) (.t 7) 1,none⟩,
 ⟨some 11,.ld (.t 10) none,none⟩,
 ⟨some 3,.mv (.t 9),none⟩,
 ⟨some 4,.mv (.t 11),none⟩] [0,3,4,5,6,7])
 (.seq (.reg [⟨some 12,.mv (.t 4),none⟩,
 ⟨some 13,.bin .neq (.t 12) (.c (.d (.str []))),none⟩,
 ⟨some 14,.mv (.t 13),none⟩,
 ⟨some 15,.mv (.t 0),some (14,true)⟩,
 ⟨some 16,.mv (.t 3),some (14,true)⟩,
 ⟨some 17,.sls (.t 15) none (some (.t 16)) none 1,some (14,true)⟩,
 ⟨some 18,.mv (.t 4),some (14,true)⟩,
 ⟨some 19,.call 39 [(.t 17),(.t 18)],some (14,true)⟩,
 ⟨some 20,.pick (.t 14) (.t 19) (.c (.d (.bool false))),none⟩] [0,5,6,7,20])
 (.cond (.t 20) (.seq (.reg [⟨some 2,.mv (.c (.d (.bool true))),none⟩] [2])
 .ret)
 .skip))))
 (.reg [⟨some 21,.bin .add (.t 7) (.c (.d (.int .i64 1))),none⟩,
 ⟨some 7,.mv (.t 21),none⟩] [0,5,6,7]))))
def c_scope_repeated : C := (.seq (.reg [⟨some 2,.mv (.c (.d (.bool false))),none⟩] [0])
 (.seq (.seq (.reg [⟨some 5,.mv (.t 0),none⟩,
 ⟨some 6,.len (.t 5),none⟩,
 ⟨some 7,.mv (.c (.d (.int .i64 0))),none⟩] [0,5,6,7])
 (.block 0 (.loop c_scope_repeated_L0)))
 (.seq (.reg [⟨some 2,.mv (.c (.d (.bool false))),none⟩] [2])
 .ret)))
noncomputable def x_scope_repeated : Cx := ⟨Try.prog,27,Try.f27,22,[],[],[.t 2]⟩
theorem g_scope_repeated : Good x_scope_repeated := ⟨Try.func27,by kernel_rfl⟩
theorem rs_scope_repeated : x_scope_repeated.rs = [.t 2] := rfl
theorem i_scope_repeated (hl : args.length ≤ 22) (h : Run x_scope_repeated K [.code c_scope_repeated] (argF args) E σ) : ACalls Try.prog 27 args σ K :=
  acalls_of (cx := x_scope_repeated) (code := Try.f27.body.getD .skip) g_scope_repeated (by kernel_rfl) Try.ntmps27 hl (compC_rc x_scope_repeated _ (ctOf c_scope_repeated) _ [] (by kernel_rfl)) h
def c_scope_walkFun : C := (.seq (.reg [⟨some 2,.box (.t 0) false,none⟩,
 ⟨some 4,.mv (.c (.d (.int .i64 0))),none⟩,
 ⟨some 5,.mv (.c (.d (.int .i64 0))),none⟩] [1,2])
 (.seq (.reg [⟨some 9,.mv (.t 1),none⟩,
 ⟨some 10,.bld [(.d (.int .i64 0)),.nilf] [(1,1,(.t 9))],none⟩,
 ⟨some 11,.box (.t 10) true,none⟩,
 ⟨some 6,.mv (.t 11),none⟩] [2,6])
 (.seq (.reg [⟨some 7,.mv (.c .nilp),none⟩] [2,6,7])
 (.seq (.reg [⟨some 12,.mv (.t 6),none⟩,
 ⟨some 13,.fld (.t 2) 2,none⟩,
 ⟨some 14,.ldl (.t 13) (some 6),none⟩,
 ⟨some 15,.mv (.t 7),none⟩,
 ⟨some 16,.fld (.t 2) 1,none⟩,
 ⟨some 17,.ldl (.t 16) none,none⟩,
 ⟨some 18,.call 41 [(.t 15),(.t 17)],none⟩,
 ⟨some 19,.call 40 [(.t 12),(.t 14),(.t 18)],none⟩,
 ⟨some 8,.mv (.t 19),none⟩] [6,8])
 (.seq (.reg [⟨some 20,.mv (.t 6),none⟩,
 ⟨some 21,.nck (.t 20),none⟩,
 ⟨some 22,.fld (.t 21) 0,none⟩,
 ⟨some 23,.ld (.t 22) none,none⟩,
 ⟨some 24,.mv (.t 8),none⟩,
 ⟨some 4,.mv (.t 23),none⟩,
 ⟨some 5,.mv (.t 24),none⟩] [4,5])
 .ret)))))
noncomputable def x_scope_walkFun : Cx := ⟨Try.prog,28,Try.f28,25,[11,300014,300017],[],[.t 4,.t 5]⟩
theorem g_scope_walkFun : Good x_scope_walkFun := ⟨Try.func28,by kernel_rfl⟩
theorem rs_scope_walkFun : x_scope_walkFun.rs = [.t 4,.t 5] := rfl
theorem i_scope_walkFun (hl : args.length ≤ 25) (h : Run x_scope_walkFun K [.code c_scope_walkFun] (argF args) E σ) : ACalls Try.prog 28 args σ K :=
  acalls_of (cx := x_scope_walkFun) (code := Try.f28.body.getD .skip) g_scope_walkFun (by kernel_rfl) Try.ntmps28 hl (compC_rc x_scope_walkFun _ (ctOf c_scope_walkFun) _ [] (by kernel_rfl)) h
def c_scope_checker_visit : C := (.seq (.reg [⟨some 3,.box (.t 0) false,none⟩,
 ⟨some 4,.box (.t 1) false,none⟩,
 ⟨some 6,.mv (.c (.d (.int .i64 0))),none⟩] [2,3,4])
 (.seq (.seq (.reg [⟨some 12,.fld (.t 4) 0,none⟩,
 ⟨some 13,.ldl (.t 12) none,none⟩] [2,3,4,13])
 (.block 0 (.seq (.reg [⟨some 15,.bin .eql (.t 13) (.c (.d (.int .i64 4))),none⟩,
 ⟨some 14,.mv (.t 15),none⟩] [2,3,4,13,14])
 (.cond (.t 14) (.seq (.reg [⟨some 16,.mv (.t 2),none⟩,
 ⟨some 17,.fld (.t 4) 1,none⟩,
 ⟨some 18,.ldl (.t 17) none,none⟩,
 ⟨some 19,.call 32 [(.t 16),(.t 18)],none⟩,
 ⟨some 20,.un .not (.t 19),none⟩,
 ⟨some 21,.mv (.t 20),none⟩,
 ⟨some 22,.fld (.t 3) 0,some (21,true)⟩,
 ⟨some 23,.ldl (.t 22) (some 2),some (21,true)⟩,
 ⟨some 24,.fld (.t 4) 1,some (21,true)⟩,
 ⟨some 25,.ldl (.t 24) none,some (21,true)⟩,
 ⟨some 26,.call 26 [(.t 23),(.t 25)],some (21,true)⟩,
 ⟨some 27,.bin .lss (.t 26) (.c (.d (.int .i64 0))),some (21,true)⟩,
 ⟨some 28,.pick (.t 21) (.t 27) (.c (.d (.bool false))),none⟩] [28])
 (.cond (.t 28) (.seq (.reg [⟨some 6,.mv (.c (.d (.int .i64 3))),none⟩] [6])
 .ret)
 .skip))
 (.seq (.reg [⟨some 30,.bin .eql (.t 13) (.c (.d (.int .i64 6))),none⟩,
 ⟨some 29,.mv (.t 30),none⟩] [2,3,4,13,29])
 (.cond (.t 29) (.seq (.reg [⟨some 32,.fld (.t 3) 2,none⟩,
 ⟨some 33,.ldl (.t 32) none,none⟩,
 ⟨some 34,.fld (.t 4) 1,none⟩,
 ⟨some 35,.ldl (.t 34) none,none⟩,
 ⟨some 36,.call 42 [(.t 33),(.t 35)],none⟩,
 ⟨some 31,.mv (.t 36),none⟩,
 ⟨some 37,.ext (.t 31) 0,none⟩,
 ⟨some 38,.ext (.t 31) 1,none⟩,
 ⟨some 39,.ext (.t 31) 2,none⟩,
 ⟨some 7,.mv (.t 37),none⟩,
 ⟨some 8,.mv (.t 38),none⟩,
 ⟨some 9,.mv (.t 39),none⟩] [3,4,7,8,9])
 (.seq (.seq (.reg [⟨some 40,.mv (.t 9),none⟩,
 ⟨some 41,.un .not (.t 40),none⟩] [3,4,7,8,41])
 (.cond (.t 41) (.seq (.reg [⟨some 6,.mv (.c (.d (.int .i64 3))),none⟩] [6])
 .ret)
 .skip))
 (.seq (.reg [⟨some 42,.fld (.t 4) 4,none⟩,
 ⟨some 43,.ldl (.t 42) none,none⟩,
 ⟨some 44,.len (.t 43),none⟩,
 ⟨some 45,.fld (.t 3) 2,none⟩,
 ⟨some 46,.ldl (.t 45) none,none⟩,
 ⟨some 47,.mv (.t 7),none⟩,
 ⟨some 48,.ix (.t 46) (.t 47) 3,none⟩,
 ⟨some 49,.fld (.t 48) 2,none⟩,
 ⟨some 50,.ld (.t 49) none,none⟩,
 ⟨some 51,.mv (.t 8),none⟩,
 ⟨some 52,.ix (.t 50) (.t 51) 2,none⟩,
 ⟨some 53,.fld (.t 52) 1,none⟩,
 ⟨some 54,.ld (.t 53) none,none⟩,
 ⟨some 55,.len (.t 54),none⟩,
 ⟨some 56,.bin .neq (.t 44) (.t 55),none⟩] [56])
 (.cond (.t 56) (.seq (.reg [⟨some 6,.mv (.c (.d (.int .i64 5))),none⟩] [6])
 .ret)
 .skip))))
 (.seq (.seq (.reg [⟨some 58,.bin .eql (.t 13) (.c (.d (.int .i64 8))),none⟩,
 ⟨some 57,.mv (.t 58),none⟩] [2,3,4,13,57])
 (.cond (.t 57) .skip
 (.reg [⟨some 59,.bin .eql (.t 13) (.c (.d (.int .i64 11))),none⟩,
 ⟨some 57,.mv (.t 59),none⟩] [2,3,4,13,57])))
 (.cond (.t 57) (.seq (.reg [⟨some 60,.fld (.t 4) 3,none⟩,
 ⟨some 61,.ldl (.t 60) none,none⟩,
 ⟨some 62,.call 27 [(.t 61)],none⟩] [62])
 (.cond (.t 62) (.seq (.reg [⟨some 6,.mv (.c (.d (.int .i64 4))),none⟩] [6])
 .ret)
 .skip))
 (.seq (.reg [⟨some 64,.bin .eql (.t 13) (.c (.d (.int .i64 10))),none⟩,
 ⟨some 63,.mv (.t 64),none⟩] [2,3,4,13,63])
 (.cond (.t 63) (.seq (.reg [⟨some 65,.ldl (.t 3) (some 3),none⟩,
 ⟨some 66,.fld (.t 4) 5,none⟩,
 ⟨some 67,.ldl (.t 66) none,none⟩,
 ⟨some 68,.call 43 [(.t 65),(.t 67)],none⟩,
 ⟨some 6,.mv (.t 68),none⟩] [6])
 .ret)
 (.seq (.reg [⟨some 70,.bin .eql (.t 13) (.c (.d (.int .i64 12))),none⟩,
 ⟨some 69,.mv (.t 70),none⟩] [2,3,4,69])
 (.cond (.t 69) (.seq (.reg [⟨some 71,.fld (.t 4) 4,none⟩,
 ⟨some 72,.ldl (.t 71) none,none⟩,
 ⟨some 73,.ix (.t 72) (.c (.d (.int .i64 0))) 6,none⟩,
 ⟨some 74,.ld (.t 73) (some 6),none⟩,
 ⟨some 10,.al [(.d (.int .i64 0)),(.d (.str [])),(.d (.int .i64 0)),.nils,.nils,.nils] false,none⟩,
 ⟨none,.st (.t 10) (.t 74) 6,none⟩] [2,3,4,10])
 (.seq (.reg [⟨some 75,.fld (.t 10) 0,none⟩,
 ⟨some 76,.ldl (.t 75) none,none⟩,
 ⟨some 77,.bin .eql (.t 76) (.c (.d (.int .i64 4))),none⟩,
 ⟨some 78,.mv (.t 77),none⟩,
 ⟨some 79,.mv (.t 2),some (78,true)⟩,
 ⟨some 80,.fld (.t 10) 1,some (78,true)⟩,
 ⟨some 81,.ldl (.t 80) none,some (78,true)⟩,
 ⟨some 82,.call 32 [(.t 79),(.t 81)],some (78,true)⟩,
 ⟨some 83,.un .not (.t 82),some (78,true)⟩,
 ⟨some 84,.pick (.t 78) (.t 83) (.c (.d (.bool false))),none⟩] [3,4,10,84])
 (.cond (.t 84) (.seq (.reg [⟨some 85,.fld (.t 3) 0,none⟩,
 ⟨some 86,.ldl (.t 85) (some 2),none⟩,
 ⟨some 87,.fld (.t 10) 1,none⟩,
 ⟨some 88,.ldl (.t 87) none,none⟩,
 ⟨some 89,.call 26 [(.t 86),(.t 88)],none⟩,
 ⟨some 11,.mv (.t 89),none⟩] [3,4,11])
 (.seq (.reg [⟨some 90,.mv (.t 11),none⟩,
 ⟨some 91,.bin .geq (.t 90) (.c (.d (.int .i64 0))),none⟩,
 ⟨some 92,.mv (.t 91),none⟩,
 ⟨some 93,.fld (.t 4) 4,some (92,true)⟩,
 ⟨some 94,.ldl (.t 93) none,some (92,true)⟩,
 ⟨some 95,.len (.t 94),some (92,true)⟩,
 ⟨some 96,.bin .sub (.t 95) (.c (.d (.int .i64 1))),some (92,true)⟩,
 ⟨some 97,.fld (.t 3) 0,some (92,true)⟩,
 ⟨some 98,.fld (.t 97) 1,some (92,true)⟩,
 ⟨some 99,.ldl (.t 98) none,some (92,true)⟩,
 ⟨some 100,.mv (.t 11),some (92,true)⟩,
 ⟨some 101,.ix (.t 99) (.t 100) 8,some (92,true)⟩,
 ⟨some 102,.fld (.t 101) 1,some (92,true)⟩,
 ⟨some 103,.ld (.t 102) none,some (92,true)⟩,
 ⟨some 104,.len (.t 103),some (92,true)⟩,
 ⟨some 105,.bin .neq (.t 96) (.t 104),some (92,true)⟩,
 ⟨some 106,.pick (.t 92) (.t 105) (.c (.d (.bool false))),none⟩] [106])
 (.cond (.t 106) (.seq (.reg [⟨some 6,.mv (.c (.d (.int .i64 5))),none⟩] [6])
 .ret)
 .skip)))
 .skip)))
 .skip))))))))))))
 (.seq (.reg [⟨some 6,.mv (.c (.d (.int .i64 0))),none⟩] [6])
 .ret)))
noncomputable def x_scope_checker_visit : Cx := ⟨Try.prog,29,Try.f29,107,[300013,300018,300023,300025,300033,300035,300043,300046,300061,300065,300067,300072,300076,300081,300086,300088,300094,300099],[],[.t 6]⟩
theorem g_scope_checker_visit : Good x_scope_checker_visit := ⟨Try.func29,by kernel_rfl⟩
theorem rs_scope_checker_visit : x_scope_checker_visit.rs = [.t 6] := rfl
theorem i_scope_checker_visit (hl : args.length ≤ 107) (h : Run x_scope_checker_visit K [.code c_scope_checker_visit] (argF args) E σ) : ACalls Try.prog 29 args σ K :=
  acalls_of (cx := x_scope_checker_visit) (code := Try.f29.body.getD .skip) g_scope_checker_visit (by kernel_rfl) Try.ntmps29 hl (compC_rc x_scope_checker_visit _ (ctOf c_scope_checker_visit) _ [] (by kernel_rfl)) h
def c_scope_Calls_1 : C := (.seq (.reg [⟨some 4,.box (.t 0) false,none⟩,
 ⟨some 6,.mv (.c (.d (.int .i64 0))),none⟩] [1,2,3,4])
 (.seq (.seq (.reg [⟨some 7,.fld (.t 4) 0,none⟩,
 ⟨some 8,.ldl (.t 7) none,none⟩,
 ⟨some 9,.bin .eql (.t 8) (.c (.d (.int .i64 4))),none⟩,
 ⟨some 10,.mv (.t 9),none⟩,
 ⟨some 11,.mv (.t 1),some (10,true)⟩,
 ⟨some 12,.fld (.t 4) 1,some (10,true)⟩,
 ⟨some 13,.ldl (.t 12) none,some (10,true)⟩,
 ⟨some 14,.call 32 [(.t 11),(.t 13)],some (10,true)⟩,
 ⟨some 15,.un .not (.t 14),some (10,true)⟩,
 ⟨some 16,.pick (.t 10) (.t 15) (.c (.d (.bool false))),none⟩] [2,3,4,16])
 (.cond (.t 16) (.regT (.one ⟨some 18,.ld (.t 3) (some 2),none⟩
 (.one ⟨some 19,.fld (.t 4) 1,none⟩
 (.one ⟨some 20,.ldl (.t 19) none,none⟩
 (.alt ⟨some 17,.ld (.t 2) none,none⟩
 (.one ⟨some 21,.call 26 [(.t 18),(.t 20)],none⟩
 (.one ⟨some 22,.ix (.t 17) (.t 21) 1,none⟩
 (.one ⟨none,.st (.t 22) (.c (.d (.bool true))) 1,none⟩
 .done)))
 (.alt ⟨some 21,.call 26 [(.t 18),(.t 20)],none⟩
 (.one ⟨some 17,.ld (.t 2) none,none⟩
 (.one ⟨some 22,.ix (.t 17) (.t 21) 1,none⟩
 (.one ⟨none,.st (.t 22) (.c (.d (.bool true))) 1,none⟩
 .done)))
 .done))))) [])
 .skip))
 (.seq (.reg [⟨some 6,.mv (.c (.d (.int .i64 0))),none⟩] [6])
 .ret)))
def t_scope_Calls_1 : List (List Nat × PT) := [([1,2,3,4],.done),([2,3,4,16],.done),([],(.one 1 (.one 2 (.one 3 (.alt 0 (.one 4 (.one 5 (.one 6 .done))) (.alt 4 (.one 0 (.one 5 (.one 6 .done))) .done)))))),([6],.done)]
noncomputable def x_scope_Calls_1 : Cx := ⟨Try.prog,31,Try.f31,23,[300008,300013,300020],[],[.t 6]⟩
theorem g_scope_Calls_1 : Good x_scope_Calls_1 := ⟨Try.func31,by kernel_rfl⟩
theorem rs_scope_Calls_1 : x_scope_Calls_1.rs = [.t 6] := rfl
theorem i_scope_Calls_1 (hl : args.length ≤ 23) (h : Run x_scope_Calls_1 K [.code c_scope_Calls_1] (argF args) E σ) : ACalls Try.prog 31 args σ K :=
  acalls_of (cx := x_scope_Calls_1) (code := Try.f31.body.getD .skip) g_scope_Calls_1 (by kernel_rfl) Try.ntmps31 hl (compC_rc x_scope_Calls_1 _ t_scope_Calls_1 _ [] (by kernel_rfl)) h
def c_scope_binding_has_L0 : C := (.seq (.seq (.reg [⟨some 5,.mv (.t 0),none⟩,
 ⟨some 6,.pnil true (.t 5),none⟩] [0,1,6])
 (.cond (.t 6) .skip
 (.exit 0)))
 (.seq (.block 1 (.seq (.reg [⟨some 11,.mv (.t 0),none⟩,
 ⟨some 12,.nck (.t 11),none⟩,
 ⟨some 13,.fld (.t 12) 0,none⟩,
 ⟨some 14,.ld (.t 13) none,none⟩,
 ⟨some 15,.mv (.t 1),none⟩,
 ⟨some 16,.bin .eql (.t 14) (.t 15),none⟩] [0,1,16])
 (.cond (.t 16) (.seq (.reg [⟨some 4,.mv (.c (.d (.bool true))),none⟩] [4])
 .ret)
 .skip)))
 (.reg [⟨some 7,.mv (.t 0),none⟩,
 ⟨some 8,.nck (.t 7),none⟩,
 ⟨some 9,.fld (.t 8) 1,none⟩,
 ⟨some 10,.ld (.t 9) none,none⟩,
 ⟨some 0,.mv (.t 10),none⟩] [0,1])))
def c_scope_binding_has : C := (.seq (.reg [⟨some 4,.mv (.c (.d (.bool false))),none⟩] [0,1])
 (.seq (.block 0 (.loop c_scope_binding_has_L0))
 (.seq (.reg [⟨some 4,.mv (.c (.d (.bool false))),none⟩] [4])
 .ret)))
noncomputable def x_scope_binding_has : Cx := ⟨Try.prog,32,Try.f32,17,[],[],[.t 4]⟩
theorem g_scope_binding_has : Good x_scope_binding_has := ⟨Try.func32,by kernel_rfl⟩
theorem rs_scope_binding_has : x_scope_binding_has.rs = [.t 4] := rfl
theorem i_scope_binding_has (hl : args.length ≤ 17) (h : Run x_scope_binding_has K [.code c_scope_binding_has] (argF args) E σ) : ACalls Try.prog 32 args σ K :=
  acalls_of (cx := x_scope_binding_has) (code := Try.f32.body.getD .skip) g_scope_binding_has (by kernel_rfl) Try.ntmps32 hl (compC_rc x_scope_binding_has _ (ctOf c_scope_binding_has) _ [] (by kernel_rfl)) h
def c_scope_resolver_declare_L0 : C := (.seq (.reg [⟨some 77,.bin .lss (.t 76) (.t 75),none⟩] [0,5,11,52,53,54,74,75,76,77])
 (.seq (.cond (.t 77) .skip
 (.exit 2))
 (.seq (.block 3 (.seq (.reg [⟨some 78,.ix (.t 74) (.t 76) 3,none⟩,
 ⟨some 79,.ld (.t 78) (some 3),none⟩,
 ⟨some 13,.al [(.d (.int .i64 0)),(.d (.str [])),.nils] false,none⟩,
 ⟨none,.st (.t 13) (.t 79) 3,none⟩] [0,5,11,13,52,53,54,74,75,76])
 (.seq (.reg [⟨some 81,.mv (.t 0),none⟩,
 ⟨some 82,.ldl (.t 13) (some 3),none⟩,
 ⟨some 83,.call 55 [(.t 81),(.t 82),(.c (.d (.bool true)))],none⟩,
 ⟨some 80,.mv (.t 83),none⟩,
 ⟨some 84,.ext (.t 80) 0,none⟩,
 ⟨some 85,.ext (.t 80) 1,none⟩,
 ⟨some 14,.al [(.d (.int .i64 0)),(.d (.int .i64 0)),.nils] false,none⟩,
 ⟨none,.st (.t 14) (.t 84) 3,none⟩,
 ⟨some 15,.mv (.t 85),none⟩] [0,5,11,14,15,52,53,54,74,75,76])
 (.seq (.seq (.reg [⟨some 86,.mv (.t 15),none⟩,
 ⟨some 87,.bin .neq (.t 86) (.c (.d (.int .i64 0))),none⟩] [0,5,11,14,15,52,53,54,74,75,76,87])
 (.cond (.t 87) (.seq (.reg [⟨some 88,.mv (.t 15),none⟩,
 ⟨some 4,.mv (.t 88),none⟩] [4])
 .ret)
 .skip))
 (.reg [⟨some 89,.fld (.t 11) 1,none⟩,
 ⟨some 90,.ldl (.t 89) none,none⟩,
 ⟨some 91,.ldl (.t 14) (some 3),none⟩,
 ⟨some 92,.bsl 3 1 [(.d (.int .i64 0)),(.d (.int .i64 0)),.nils] [(0,3,(.t 91))],none⟩,
 ⟨some 93,.app 122 3 40 (.t 90) (.t 92),none⟩,
 ⟨some 94,.fld (.t 11) 1,none⟩,
 ⟨none,.st (.t 94) (.t 93) 1,none⟩] [0,5,11,52,53,54,74,75,76])))))
 (.reg [⟨some 95,.bin .add (.t 76) (.c (.d (.int .i64 1))),none⟩,
 ⟨some 76,.mv (.t 95),none⟩] [0,5,11,52,53,54,74,75,76]))))
def c_scope_resolver_declare_L1 : C := (.seq (.reg [⟨some 55,.bin .lss (.t 54) (.t 53),none⟩] [0,5,52,53,54,55])
 (.seq (.cond (.t 55) .skip
 (.exit 0))
 (.seq (.block 1 (.seq (.reg [⟨some 56,.ix (.t 52) (.t 54) 2,none⟩,
 ⟨some 57,.ld (.t 56) (some 2),none⟩,
 ⟨some 7,.al [(.d (.str [])),.nils] false,none⟩,
 ⟨none,.st (.t 7) (.t 57) 2,none⟩] [0,5,7,52,53,54])
 (.seq (.seq (.reg [⟨some 59,.mv (.t 0),none⟩,
 ⟨some 60,.nck (.t 59),none⟩,
 ⟨some 61,.fld (.t 60) 0,none⟩,
 ⟨some 62,.ld (.t 61) none,none⟩,
 ⟨some 63,.fld (.t 7) 0,none⟩,
 ⟨some 64,.ldl (.t 63) none,none⟩,
 ⟨some 65,.call 42 [(.t 62),(.t 64)],none⟩,
 ⟨some 58,.mv (.t 65),none⟩,
 ⟨some 66,.ext (.t 58) 0,none⟩,
 ⟨some 67,.ext (.t 58) 1,none⟩,
 ⟨some 68,.ext (.t 58) 2,none⟩,
 ⟨some 8,.mv (.t 66),none⟩,
 ⟨some 9,.mv (.t 67),none⟩,
 ⟨some 10,.mv (.t 68),none⟩] [0,5,7,10,52,53,54])
 (.seq (.reg [⟨some 69,.mv (.t 10),none⟩] [0,5,7,52,53,54,69])
 (.cond (.t 69) (.seq (.reg [⟨some 4,.mv (.c (.d (.int .i64 4))),none⟩] [4])
 .ret)
 .skip)))
 (.seq (.reg [⟨some 70,.fld (.t 7) 0,none⟩,
 ⟨some 71,.ldl (.t 70) none,none⟩,
 ⟨some 72,.bld [(.d (.str [])),.nils] [(0,1,(.t 71))],none⟩,
 ⟨some 11,.al [(.d (.str [])),.nils] false,none⟩,
 ⟨none,.st (.t 11) (.t 72) 2,none⟩] [0,5,7,11,52,53,54])
 (.seq (.seq (.reg [⟨some 73,.fld (.t 7) 1,none⟩,
 ⟨some 74,.ldl (.t 73) none,none⟩,
 ⟨some 75,.len (.t 74),none⟩,
 ⟨some 76,.mv (.c (.d (.int .i64 0))),none⟩] [0,5,11,52,53,54,74,75,76])
 (.block 2 (.loop c_scope_resolver_declare_L0)))
 (.regT (.one ⟨some 96,.mv (.t 0),none⟩
 (.one ⟨some 97,.nck (.t 96),none⟩
 (.one ⟨some 98,.fld (.t 97) 0,none⟩
 (.one ⟨some 100,.mv (.t 5),none⟩
 (.one ⟨some 101,.mv (.t 0),none⟩
 (.one ⟨some 102,.nck (.t 101),none⟩
 (.one ⟨some 103,.fld (.t 102) 0,none⟩
 (.one ⟨some 104,.ld (.t 103) none,none⟩
 (.one ⟨some 105,.mv (.t 5),none⟩
 (.one ⟨some 106,.ix (.t 104) (.t 105) 3,none⟩
 (.one ⟨some 107,.fld (.t 106) 2,none⟩
 (.one ⟨some 108,.ld (.t 107) none,none⟩
 (.one ⟨some 109,.ldl (.t 11) (some 2),none⟩
 (.one ⟨some 110,.bsl 2 1 [(.d (.str [])),.nils] [(0,2,(.t 109))],none⟩
 (.alt ⟨some 99,.ld (.t 98) none,none⟩
 (.one ⟨some 111,.app 104 2 40 (.t 108) (.t 110),none⟩
 (.one ⟨some 112,.ix (.t 99) (.t 100) 3,none⟩
 (.one ⟨some 113,.fld (.t 112) 2,none⟩
 (.one ⟨none,.st (.t 113) (.t 111) 1,none⟩
 .done))))
 (.alt ⟨some 111,.app 104 2 40 (.t 108) (.t 110),none⟩
 (.one ⟨some 99,.ld (.t 98) none,none⟩
 (.one ⟨some 112,.ix (.t 99) (.t 100) 3,none⟩
 (.one ⟨some 113,.fld (.t 112) 2,none⟩
 (.one ⟨none,.st (.t 113) (.t 111) 1,none⟩
 .done))))
 .done)))))))))))))))) [0,5,52,53,54]))))))
 (.reg [⟨some 114,.bin .add (.t 54) (.c (.d (.int .i64 1))),none⟩,
 ⟨some 54,.mv (.t 114),none⟩] [0,5,52,53,54]))))
def c_scope_resolver_declare : C := (.seq (.reg [⟨some 3,.box (.t 1) false,none⟩,
 ⟨some 4,.mv (.c (.d (.int .i64 0))),none⟩] [0,3])
 (.seq (.seq (.reg [⟨some 16,.mv (.t 0),none⟩,
 ⟨some 17,.fld (.t 3) 0,none⟩,
 ⟨some 18,.ldl (.t 17) none,none⟩,
 ⟨some 19,.call 54 [(.t 16),(.t 18)],none⟩,
 ⟨some 20,.bin .geq (.t 19) (.c (.d (.int .i64 0))),none⟩,
 ⟨some 21,.mv (.t 20),none⟩,
 ⟨some 22,.fld (.t 3) 1,some (21,false)⟩,
 ⟨some 23,.ldl (.t 22) none,some (21,false)⟩,
 ⟨some 24,.call 27 [(.t 23)],some (21,false)⟩,
 ⟨some 25,.pick (.t 21) (.c (.d (.bool true))) (.t 24),none⟩] [0,3,25])
 (.cond (.t 25) (.seq (.reg [⟨some 4,.mv (.c (.d (.int .i64 4))),none⟩] [4])
 .ret)
 .skip))
 (.seq (.regT (.one ⟨some 26,.mv (.t 0),none⟩
 (.one ⟨some 27,.mv (.t 0),none⟩
 (.one ⟨some 28,.nck (.t 27),none⟩
 (.one ⟨some 29,.fld (.t 28) 0,none⟩
 (.one ⟨some 31,.fld (.t 3) 0,none⟩
 (.one ⟨some 32,.ldl (.t 31) none,none⟩
 (.one ⟨some 33,.fld (.t 3) 1,none⟩
 (.one ⟨some 34,.ldl (.t 33) none,none⟩
 (.one ⟨some 35,.len (.t 34),none⟩
 (.one ⟨some 36,.bld [(.d (.str [])),(.d (.int .i64 0)),.nils] [(0,1,(.t 32)),(1,1,(.t 35))],none⟩
 (.alt ⟨some 30,.ld (.t 29) none,none⟩
 (.one ⟨some 37,.bslm 107 3 1 [(.d (.str [])),(.d (.int .i64 0)),.nils] [(0,3,(.t 36))],none⟩
 (.one ⟨some 38,.ex (.appv 107 3) [(.t 30),(.t 37)],none⟩
 (.one ⟨some 39,.nck (.t 26),none⟩
 (.one ⟨some 40,.fld (.t 39) 0,none⟩
 (.one ⟨none,.st (.t 40) (.t 38) 1,none⟩
 .done)))))
 (.alt ⟨some 37,.bslm 107 3 1 [(.d (.str [])),(.d (.int .i64 0)),.nils] [(0,3,(.t 36))],none⟩
 (.one ⟨some 30,.ld (.t 29) none,none⟩
 (.one ⟨some 38,.ex (.appv 107 3) [(.t 30),(.t 37)],none⟩
 (.one ⟨some 39,.nck (.t 26),none⟩
 (.one ⟨some 40,.fld (.t 39) 0,none⟩
 (.one ⟨none,.st (.t 40) (.t 38) 1,none⟩
 .done)))))
 .done)))))))))))) [0,3])
 (.seq (.reg [⟨some 41,.mv (.t 0),none⟩,
 ⟨some 42,.ldl (.t 3) (some 3),none⟩,
 ⟨some 43,.nck (.t 41),none⟩,
 ⟨some 44,.fld (.t 43) 1,none⟩,
 ⟨none,.st (.t 44) (.t 42) 3,none⟩] [0,3])
 (.seq (.reg [⟨some 45,.mv (.t 0),none⟩,
 ⟨some 46,.nck (.t 45),none⟩,
 ⟨some 47,.fld (.t 46) 0,none⟩,
 ⟨some 48,.ld (.t 47) none,none⟩,
 ⟨some 49,.len (.t 48),none⟩,
 ⟨some 50,.bin .sub (.t 49) (.c (.d (.int .i64 1))),none⟩,
 ⟨some 5,.mv (.t 50),none⟩] [0,3,5])
 (.seq (.seq (.reg [⟨some 51,.fld (.t 3) 2,none⟩,
 ⟨some 52,.ldl (.t 51) none,none⟩,
 ⟨some 53,.len (.t 52),none⟩,
 ⟨some 54,.mv (.c (.d (.int .i64 0))),none⟩] [0,5,52,53,54])
 (.block 0 (.loop c_scope_resolver_declare_L1)))
 (.seq (.reg [⟨some 4,.mv (.c (.d (.int .i64 0))),none⟩] [4])
 .ret)))))))
def t_scope_resolver_declare : List (List Nat × PT) := [([0,3],.done),([0,3,25],.done),([4],.done),([0,3],(.one 0 (.one 1 (.one 2 (.one 3 (.one 5 (.one 6 (.one 7 (.one 8 (.one 9 (.one 10 (.alt 4 (.one 11 (.one 12 (.one 13 (.one 14 (.one 15 .done))))) (.alt 11 (.one 4 (.one 12 (.one 13 (.one 14 (.one 15 .done))))) .done))))))))))))),([0,3],.done),([0,3,5],.done),([0,5,52,53,54],.done),([0,5,52,53,54,55],.done),([0,5,7,52,53,54],.done),([0,5,7,10,52,53,54],.done),([0,5,7,52,53,54,69],.done),([4],.done),([0,5,7,11,52,53,54],.done),([0,5,11,52,53,54,74,75,76],.done),([0,5,11,52,53,54,74,75,76,77],.done),([0,5,11,13,52,53,54,74,75,76],.done),([0,5,11,14,15,52,53,54,74,75,76],.done),([0,5,11,14,15,52,53,54,74,75,76,87],.done),([4],.done),([0,5,11,52,53,54,74,75,76],.done),([0,5,11,52,53,54,74,75,76],.done),([0,5,52,53,54],(.one 0 (.one 1 (.one 2 (.one 4 (.one 5 (.one 6 (.one 7 (.one 8 (.one 9 (.one 10 (.one 11 (.one 12 (.one 13 (.one 14 (.alt 3 (.one 15 (.one 16 (.one 17 (.one 18 .done)))) (.alt 15 (.one 3 (.one 16 (.one 17 (.one 18 .done)))) .done))))))))))))))))),([0,5,52,53,54],.done),([4],.done)]
noncomputable def x_scope_resolver_declare : Cx := ⟨Try.prog,36,Try.f36,115,[37,100038,300018,300023,300032,300034,300042,300052,300064,300071,300074,300082,300090,300091,300109],[],[.t 4]⟩
theorem g_scope_resolver_declare : Good x_scope_resolver_declare := ⟨Try.func36,by kernel_rfl⟩
theorem rs_scope_resolver_declare : x_scope_resolver_declare.rs = [.t 4] := rfl
theorem i_scope_resolver_declare (hl : args.length ≤ 115) (h : Run x_scope_resolver_declare K [.code c_scope_resolver_declare] (argF args) E σ) : ACalls Try.prog 36 args σ K :=
  acalls_of (cx := x_scope_resolver_declare) (code := Try.f36.body.getD .skip) g_scope_resolver_declare (by kernel_rfl) Try.ntmps36 hl (compC_rc x_scope_resolver_declare _ t_scope_resolver_declare _ [] (by kernel_rfl)) h
def c_slices_IndexFunc_api_FunExpr_L0 : C := (.seq (.reg [⟨some 9,.bin .lss (.t 8) (.t 7),none⟩] [0,1,7,8,9])
 (.seq (.cond (.t 9) .skip
 (.exit 0))
 (.seq (.block 1 (.seq (.reg [⟨some 10,.mv (.t 8),none⟩,
 ⟨some 5,.mv (.t 10),none⟩] [0,1,5,7,8])
 (.seq (.reg [⟨some 11,.mv (.t 1),none⟩,
 ⟨some 12,.mv (.t 0),none⟩,
 ⟨some 13,.mv (.t 5),none⟩,
 ⟨some 14,.ix (.t 12) (.t 13) 8,none⟩,
 ⟨some 15,.ld (.t 14) (some 8),none⟩,
 ⟨some 16,.callv (.t 11) [(.t 15)],none⟩] [0,1,5,7,8,16])
 (.cond (.t 16) (.seq (.reg [⟨some 17,.mv (.t 5),none⟩,
 ⟨some 4,.mv (.t 17),none⟩] [4])
 .ret)
 .skip))))
 (.reg [⟨some 18,.bin .add (.t 8) (.c (.d (.int .i64 1))),none⟩,
 ⟨some 8,.mv (.t 18),none⟩] [0,1,7,8]))))
def c_slices_IndexFunc_api_FunExpr : C := (.seq (.reg [⟨some 4,.mv (.c (.d (.int .i64 0))),none⟩] [0,1])
 (.seq (.seq (.reg [⟨some 6,.mv (.t 0),none⟩,
 ⟨some 7,.len (.t 6),none⟩,
 ⟨some 8,.mv (.c (.d (.int .i64 0))),none⟩] [0,1,7,8])
 (.block 0 (.loop c_slices_IndexFunc_api_FunExpr_L0)))
 (.seq (.reg [⟨some 4,.mv (.c (.d (.int .i64 (-1)))),none⟩] [4])
 .ret)))
noncomputable def x_slices_IndexFunc_api_FunExpr : Cx := ⟨Try.prog,37,Try.f37,19,[],[],[.t 4]⟩
theorem g_slices_IndexFunc_api_FunExpr : Good x_slices_IndexFunc_api_FunExpr := ⟨Try.func37,by kernel_rfl⟩
theorem rs_slices_IndexFunc_api_FunExpr : x_slices_IndexFunc_api_FunExpr.rs = [.t 4] := rfl
theorem i_slices_IndexFunc_api_FunExpr (hl : args.length ≤ 19) (h : Run x_slices_IndexFunc_api_FunExpr K [.code c_slices_IndexFunc_api_FunExpr] (argF args) E σ) : ACalls Try.prog 37 args σ K :=
  acalls_of (cx := x_slices_IndexFunc_api_FunExpr) (code := Try.f37.body.getD .skip) g_slices_IndexFunc_api_FunExpr (by kernel_rfl) Try.ntmps37 hl (compC_rc x_slices_IndexFunc_api_FunExpr _ (ctOf c_slices_IndexFunc_api_FunExpr) _ [] (by kernel_rfl)) h
def c_scope_function_1 : C := (.seq (.reg [⟨some 2,.box (.t 0) false,none⟩,
 ⟨some 3,.mv (.c (.d (.bool false))),none⟩] [1,2])
 (.seq (.reg [⟨some 4,.fld (.t 2) 0,none⟩,
 ⟨some 5,.ldl (.t 4) none,none⟩,
 ⟨some 6,.ld (.t 1) none,none⟩,
 ⟨some 7,.bin .eql (.t 5) (.t 6),none⟩,
 ⟨some 3,.mv (.t 7),none⟩] [3])
 .ret))
noncomputable def x_scope_function_1 : Cx := ⟨Try.prog,38,Try.f38,8,[300005],[],[.t 3]⟩
theorem g_scope_function_1 : Good x_scope_function_1 := ⟨Try.func38,by kernel_rfl⟩
theorem rs_scope_function_1 : x_scope_function_1.rs = [.t 3] := rfl
theorem i_scope_function_1 (hl : args.length ≤ 8) (h : Run x_scope_function_1 K [.code c_scope_function_1] (argF args) E σ) : ACalls Try.prog 38 args σ K :=
  acalls_of (cx := x_scope_function_1) (code := Try.f38.body.getD .skip) g_scope_function_1 (by kernel_rfl) Try.ntmps38 hl (compC_rc x_scope_function_1 _ (ctOf c_scope_function_1) _ [] (by kernel_rfl)) h
def c_slices_Contains_string : C := (.seq (.reg [⟨some 4,.mv (.c (.d (.bool false))),none⟩] [0,1])
 (.seq (.reg [⟨some 5,.mv (.t 0),none⟩,
 ⟨some 6,.mv (.t 1),none⟩,
 ⟨some 7,.call 56 [(.t 5),(.t 6)],none⟩,
 ⟨some 8,.bin .geq (.t 7) (.c (.d (.int .i64 0))),none⟩,
 ⟨some 4,.mv (.t 8),none⟩] [4])
 .ret))
noncomputable def x_slices_Contains_string : Cx := ⟨Try.prog,39,Try.f39,9,[],[],[.t 4]⟩
theorem g_slices_Contains_string : Good x_slices_Contains_string := ⟨Try.func39,by kernel_rfl⟩
theorem rs_slices_Contains_string : x_slices_Contains_string.rs = [.t 4] := rfl
theorem i_slices_Contains_string (hl : args.length ≤ 9) (h : Run x_slices_Contains_string K [.code c_slices_Contains_string] (argF args) E σ) : ACalls Try.prog 39 args σ K :=
  acalls_of (cx := x_slices_Contains_string) (code := Try.f39.body.getD .skip) g_slices_Contains_string (by kernel_rfl) Try.ntmps39 hl (compC_rc x_slices_Contains_string _ (ctOf c_slices_Contains_string) _ [] (by kernel_rfl)) h
def c_scope_walker_walk_L0 : C := (.seq (.reg [⟨some 29,.bin .lss (.t 28) (.t 27),none⟩] [0,2,4,26,27,28,29])
 (.seq (.cond (.t 29) .skip
 (.exit 0))
 (.seq (.block 1 (.seq (.reg [⟨some 30,.mv (.t 28),none⟩,
 ⟨some 31,.ix (.t 26) (.t 28) 6,none⟩,
 ⟨some 32,.ld (.t 31) (some 6),none⟩,
 ⟨some 9,.al [(.d (.int .i64 0)),(.d (.str [])),(.d (.int .i64 0)),.nils,.nils,.nils] false,none⟩,
 ⟨some 8,.mv (.t 30),none⟩,
 ⟨none,.st (.t 9) (.t 32) 6,none⟩] [0,2,4,8,9,26,27,28])
 (.seq (.reg [⟨some 33,.mv (.t 2),none⟩,
 ⟨some 10,.mv (.t 33),none⟩] [0,2,4,8,9,10,26,27,28])
 (.seq (.block 2 (.seq (.seq (.reg [⟨some 35,.fld (.t 4) 0,none⟩,
 ⟨some 36,.ldl (.t 35) none,none⟩,
 ⟨some 37,.bin .eql (.t 36) (.c (.d (.int .i64 11))),none⟩,
 ⟨some 34,.mv (.t 37),none⟩] [0,2,4,8,9,10,26,27,28,34])
 (.cond (.t 34) .skip
 (.reg [⟨some 38,.fld (.t 4) 0,none⟩,
 ⟨some 39,.ldl (.t 38) none,none⟩,
 ⟨some 40,.bin .eql (.t 39) (.c (.d (.int .i64 8))),none⟩,
 ⟨some 41,.mv (.t 40),none⟩,
 ⟨some 42,.mv (.t 8),some (41,true)⟩,
 ⟨some 43,.bin .eql (.t 42) (.c (.d (.int .i64 1))),some (41,true)⟩,
 ⟨some 44,.pick (.t 41) (.t 43) (.c (.d (.bool false))),none⟩,
 ⟨some 34,.mv (.t 44),none⟩] [0,2,4,8,9,10,26,27,28,34])))
 (.cond (.t 34) (.reg [⟨some 45,.mv (.t 2),none⟩,
 ⟨some 46,.fld (.t 4) 3,none⟩,
 ⟨some 47,.ldl (.t 46) none,none⟩,
 ⟨some 48,.call 41 [(.t 45),(.t 47)],none⟩,
 ⟨some 10,.mv (.t 48),none⟩] [0,2,4,9,10,26,27,28])
 (.seq (.reg [⟨some 50,.fld (.t 4) 0,none⟩,
 ⟨some 51,.ldl (.t 50) none,none⟩,
 ⟨some 52,.bin .eql (.t 51) (.c (.d (.int .i64 7))),none⟩,
 ⟨some 53,.mv (.t 52),none⟩,
 ⟨some 54,.fld (.t 4) 0,some (53,false)⟩,
 ⟨some 55,.ldl (.t 54) none,some (53,false)⟩,
 ⟨some 56,.bin .eql (.t 55) (.c (.d (.int .i64 17))),some (53,false)⟩,
 ⟨some 57,.pick (.t 53) (.c (.d (.bool true))) (.t 56),none⟩,
 ⟨some 58,.mv (.t 57),none⟩,
 ⟨some 59,.mv (.t 8),some (58,true)⟩,
 ⟨some 60,.bin .eql (.t 59) (.c (.d (.int .i64 1))),some (58,true)⟩,
 ⟨some 61,.pick (.t 58) (.t 60) (.c (.d (.bool false))),none⟩,
 ⟨some 49,.mv (.t 61),none⟩] [0,2,4,9,10,26,27,28,49])
 (.cond (.t 49) (.reg [⟨some 62,.mv (.t 2),none⟩,
 ⟨some 63,.fld (.t 4) 1,none⟩,
 ⟨some 64,.ldl (.t 63) none,none⟩,
 ⟨some 65,.bsl 1 1 [(.d (.str []))] [(0,1,(.t 64))],none⟩,
 ⟨some 66,.call 41 [(.t 62),(.t 65)],none⟩,
 ⟨some 10,.mv (.t 66),none⟩] [0,2,4,9,10,26,27,28])
 .skip)))))
 (.seq (.reg [⟨some 67,.mv (.t 0),none⟩,
 ⟨some 68,.nck (.t 67),none⟩,
 ⟨some 69,.fld (.t 68) 0,none⟩,
 ⟨some 70,.ld (.t 69) none,none⟩,
 ⟨some 71,.bin .add (.t 70) (.c (.d (.int .i64 1))),none⟩,
 ⟨some 72,.nck (.t 67),none⟩,
 ⟨some 73,.fld (.t 72) 0,none⟩,
 ⟨none,.st (.t 73) (.t 71) 1,none⟩] [0,2,4,9,10,26,27,28])
 (.seq (.reg [⟨some 74,.mv (.t 0),none⟩,
 ⟨some 75,.ldl (.t 9) (some 6),none⟩,
 ⟨some 76,.mv (.t 10),none⟩,
 ⟨some 77,.call 40 [(.t 74),(.t 75),(.t 76)],none⟩,
 ⟨some 11,.mv (.t 77),none⟩] [0,2,4,11,26,27,28])
 (.seq (.reg [⟨some 78,.mv (.t 11),none⟩,
 ⟨some 79,.bin .neq (.t 78) (.c (.d (.int .i64 0))),none⟩] [0,2,4,11,26,27,28,79])
 (.cond (.t 79) (.seq (.reg [⟨some 80,.mv (.t 11),none⟩,
 ⟨some 6,.mv (.t 80),none⟩] [6])
 .ret)
 .skip))))))))
 (.reg [⟨some 81,.bin .add (.t 28) (.c (.d (.int .i64 1))),none⟩,
 ⟨some 28,.mv (.t 81),none⟩] [0,2,4,26,27,28]))))
def c_scope_walker_walk_L1 : C := (.seq (.reg [⟨some 86,.bin .lss (.t 85) (.t 84),none⟩] [0,2,83,84,85,86])
 (.seq (.cond (.t 86) .skip
 (.exit 3))
 (.seq (.block 4 (.seq (.reg [⟨some 87,.ix (.t 83) (.t 85) 8,none⟩,
 ⟨some 88,.ld (.t 87) (some 8),none⟩,
 ⟨some 13,.al [(.d (.str [])),.nils,(.d (.int .i64 0)),(.d (.str [])),(.d (.int .i64 0)),.nils,.nils,.nils] false,none⟩,
 ⟨none,.st (.t 13) (.t 88) 8,none⟩] [0,2,13,83,84,85])
 (.seq (.reg [⟨some 89,.mv (.t 0),none⟩,
 ⟨some 90,.nck (.t 89),none⟩,
 ⟨some 91,.fld (.t 90) 0,none⟩,
 ⟨some 92,.ld (.t 91) none,none⟩,
 ⟨some 93,.bin .add (.t 92) (.c (.d (.int .i64 1))),none⟩,
 ⟨some 94,.nck (.t 89),none⟩,
 ⟨some 95,.fld (.t 94) 0,none⟩,
 ⟨none,.st (.t 95) (.t 93) 1,none⟩] [0,2,13,83,84,85])
 (.seq (.reg [⟨some 96,.mv (.t 0),none⟩,
 ⟨some 97,.fld (.t 13) 2,none⟩,
 ⟨some 98,.ldl (.t 97) (some 6),none⟩,
 ⟨some 99,.mv (.t 2),none⟩,
 ⟨some 100,.fld (.t 13) 1,none⟩,
 ⟨some 101,.ldl (.t 100) none,none⟩,
 ⟨some 102,.call 41 [(.t 99),(.t 101)],none⟩,
 ⟨some 103,.call 40 [(.t 96),(.t 98),(.t 102)],none⟩,
 ⟨some 14,.mv (.t 103),none⟩] [0,2,14,83,84,85])
 (.seq (.reg [⟨some 104,.mv (.t 14),none⟩,
 ⟨some 105,.bin .neq (.t 104) (.c (.d (.int .i64 0))),none⟩] [0,2,14,83,84,85,105])
 (.cond (.t 105) (.seq (.reg [⟨some 106,.mv (.t 14),none⟩,
 ⟨some 6,.mv (.t 106),none⟩] [6])
 .ret)
 .skip))))))
 (.reg [⟨some 107,.bin .add (.t 85) (.c (.d (.int .i64 1))),none⟩,
 ⟨some 85,.mv (.t 107),none⟩] [0,2,83,84,85]))))
def c_scope_walker_walk : C := (.seq (.reg [⟨some 4,.box (.t 1) false,none⟩,
 ⟨some 6,.mv (.c (.d (.int .i64 0))),none⟩] [0,2,4])
 (.seq (.seq (.reg [⟨some 15,.mv (.t 0),none⟩,
 ⟨some 16,.nck (.t 15),none⟩,
 ⟨some 17,.fld (.t 16) 1,none⟩,
 ⟨some 18,.ld (.t 17) none,none⟩,
 ⟨some 19,.ldl (.t 4) (some 6),none⟩,
 ⟨some 20,.mv (.t 2),none⟩,
 ⟨some 21,.callv (.t 18) [(.t 19),(.t 20)],none⟩,
 ⟨some 7,.mv (.t 21),none⟩] [0,2,4,7])
 (.seq (.reg [⟨some 22,.mv (.t 7),none⟩,
 ⟨some 23,.bin .neq (.t 22) (.c (.d (.int .i64 0))),none⟩] [0,2,4,7,23])
 (.cond (.t 23) (.seq (.reg [⟨some 24,.mv (.t 7),none⟩,
 ⟨some 6,.mv (.t 24),none⟩] [6])
 .ret)
 .skip)))
 (.seq (.seq (.reg [⟨some 25,.fld (.t 4) 4,none⟩,
 ⟨some 26,.ldl (.t 25) none,none⟩,
 ⟨some 27,.len (.t 26),none⟩,
 ⟨some 28,.mv (.c (.d (.int .i64 0))),none⟩] [0,2,4,26,27,28])
 (.block 0 (.loop c_scope_walker_walk_L0)))
 (.seq (.seq (.reg [⟨some 82,.fld (.t 4) 5,none⟩,
 ⟨some 83,.ldl (.t 82) none,none⟩,
 ⟨some 84,.len (.t 83),none⟩,
 ⟨some 85,.mv (.c (.d (.int .i64 0))),none⟩] [0,2,83,84,85])
 (.block 3 (.loop c_scope_walker_walk_L1)))
 (.seq (.reg [⟨some 6,.mv (.c (.d (.int .i64 0))),none⟩] [6])
 .ret)))))
noncomputable def x_scope_walker_walk : Cx := ⟨Try.prog,40,Try.f40,108,[300019,300026,300036,300039,300047,300051,300055,300064,300075,300083,300098,300101],[],[.t 6]⟩
theorem g_scope_walker_walk : Good x_scope_walker_walk := ⟨Try.func40,by kernel_rfl⟩
theorem rs_scope_walker_walk : x_scope_walker_walk.rs = [.t 6] := rfl
theorem i_scope_walker_walk (hl : args.length ≤ 108) (h : Run x_scope_walker_walk K [.code c_scope_walker_walk] (argF args) E σ) : ACalls Try.prog 40 args σ K :=
  acalls_of (cx := x_scope_walker_walk) (code := Try.f40.body.getD .skip) g_scope_walker_walk (by kernel_rfl) Try.ntmps40 hl (compC_rc x_scope_walker_walk _ (ctOf c_scope_walker_walk) _ [] (by kernel_rfl)) h
def c_scope_binding_with_L0 : C := (.seq (.reg [⟨some 10,.bin .lss (.t 9) (.t 8),none⟩] [0,7,8,9,10])
 (.seq (.cond (.t 10) .skip
 (.exit 0))
 (.seq (.block 1 (.seq (.reg [⟨some 11,.ix (.t 7) (.t 9) 1,none⟩,
 ⟨some 12,.ld (.t 11) none,none⟩,
 ⟨some 6,.mv (.t 12),none⟩] [0,6,7,8,9])
 (.seq (.reg [⟨some 13,.mv (.t 6),none⟩,
 ⟨some 14,.bin .neq (.t 13) (.c (.d (.str []))),none⟩] [0,6,7,8,9,14])
 (.cond (.t 14) (.reg [⟨some 15,.mv (.t 6),none⟩,
 ⟨some 16,.mv (.t 0),none⟩,
 ⟨some 17,.bld [(.d (.str [])),.nilp] [(0,1,(.t 15)),(1,1,(.t 16))],none⟩,
 ⟨some 18,.boxi (.t 17),none⟩,
 ⟨some 0,.mv (.t 18),none⟩] [0,7,8,9])
 .skip))))
 (.reg [⟨some 19,.bin .add (.t 9) (.c (.d (.int .i64 1))),none⟩,
 ⟨some 9,.mv (.t 19),none⟩] [0,7,8,9]))))
def c_scope_binding_with : C := (.seq (.reg [⟨some 4,.mv (.c .nilp),none⟩] [0,1])
 (.seq (.seq (.reg [⟨some 7,.mv (.t 1),none⟩,
 ⟨some 8,.len (.t 7),none⟩,
 ⟨some 9,.mv (.c (.d (.int .i64 0))),none⟩] [0,7,8,9])
 (.block 0 (.loop c_scope_binding_with_L0)))
 (.seq (.reg [⟨some 20,.mv (.t 0),none⟩,
 ⟨some 4,.mv (.t 20),none⟩] [4])
 .ret)))
noncomputable def x_scope_binding_with : Cx := ⟨Try.prog,41,Try.f41,21,[100018],[],[.t 4]⟩
theorem g_scope_binding_with : Good x_scope_binding_with := ⟨Try.func41,by kernel_rfl⟩
theorem rs_scope_binding_with : x_scope_binding_with.rs = [.t 4] := rfl
theorem i_scope_binding_with (hl : args.length ≤ 21) (h : Run x_scope_binding_with K [.code c_scope_binding_with] (argF args) E σ) : ACalls Try.prog 41 args σ K :=
  acalls_of (cx := x_scope_binding_with) (code := Try.f41.body.getD .skip) g_scope_binding_with (by kernel_rfl) Try.ntmps41 hl (compC_rc x_scope_binding_with _ (ctOf c_scope_binding_with) _ [] (by kernel_rfl)) h
def c_scope_Constructor_L0 : C := (.seq (.reg [⟨some 21,.bin .lss (.t 20) (.t 19),none⟩] [0,1,7,10,11,19,20,21])
 (.seq (.cond (.t 21) .skip
 (.exit 2))
 (.seq (.block 3 (.seq (.reg [⟨some 22,.mv (.t 20),none⟩,
 ⟨some 8,.mv (.t 22),none⟩] [0,1,7,8,10,11,19,20])
 (.seq (.reg [⟨some 23,.mv (.t 0),none⟩,
 ⟨some 24,.mv (.t 7),none⟩,
 ⟨some 25,.ix (.t 23) (.t 24) 3,none⟩,
 ⟨some 26,.fld (.t 25) 2,none⟩,
 ⟨some 27,.ld (.t 26) none,none⟩,
 ⟨some 28,.mv (.t 8),none⟩,
 ⟨some 29,.ix (.t 27) (.t 28) 2,none⟩,
 ⟨some 30,.fld (.t 29) 0,none⟩,
 ⟨some 31,.ld (.t 30) none,none⟩,
 ⟨some 32,.mv (.t 1),none⟩,
 ⟨some 33,.bin .eql (.t 31) (.t 32),none⟩] [0,1,7,8,10,11,19,20,33])
 (.cond (.t 33) (.seq (.reg [⟨some 34,.mv (.t 7),none⟩,
 ⟨some 35,.mv (.t 8),none⟩,
 ⟨some 4,.mv (.t 34),none⟩,
 ⟨some 5,.mv (.t 35),none⟩,
 ⟨some 6,.mv (.c (.d (.bool true))),none⟩] [4,5,6])
 .ret)
 .skip))))
 (.reg [⟨some 36,.bin .add (.t 20) (.c (.d (.int .i64 1))),none⟩,
 ⟨some 20,.mv (.t 36),none⟩] [0,1,7,10,11,19,20]))))
def c_scope_Constructor_L1 : C := (.seq (.reg [⟨some 12,.bin .lss (.t 11) (.t 10),none⟩] [0,1,10,11,12])
 (.seq (.cond (.t 12) .skip
 (.exit 0))
 (.seq (.block 1 (.seq (.reg [⟨some 13,.mv (.t 11),none⟩,
 ⟨some 7,.mv (.t 13),none⟩] [0,1,7,10,11])
 (.seq (.reg [⟨some 14,.mv (.t 0),none⟩,
 ⟨some 15,.mv (.t 7),none⟩,
 ⟨some 16,.ix (.t 14) (.t 15) 3,none⟩,
 ⟨some 17,.fld (.t 16) 2,none⟩,
 ⟨some 18,.ld (.t 17) none,none⟩,
 ⟨some 19,.len (.t 18),none⟩,
 ⟨some 20,.mv (.c (.d (.int .i64 0))),none⟩] [0,1,7,10,11,19,20])
 (.block 2 (.loop c_scope_Constructor_L0)))))
 (.reg [⟨some 37,.bin .add (.t 11) (.c (.d (.int .i64 1))),none⟩,
 ⟨some 11,.mv (.t 37),none⟩] [0,1,10,11]))))
def c_scope_Constructor : C := (.seq (.reg [⟨some 4,.mv (.c (.d (.int .i64 0))),none⟩,
 ⟨some 5,.mv (.c (.d (.int .i64 0))),none⟩,
 ⟨some 6,.mv (.c (.d (.bool false))),none⟩] [0,1])
 (.seq (.seq (.reg [⟨some 9,.mv (.t 0),none⟩,
 ⟨some 10,.len (.t 9),none⟩,
 ⟨some 11,.mv (.c (.d (.int .i64 0))),none⟩] [0,1,10,11])
 (.block 0 (.loop c_scope_Constructor_L1)))
 (.seq (.reg [⟨some 4,.mv (.c (.d (.int .i64 0))),none⟩,
 ⟨some 5,.mv (.c (.d (.int .i64 0))),none⟩,
 ⟨some 6,.mv (.c (.d (.bool false))),none⟩] [4,5,6])
 .ret)))
noncomputable def x_scope_Constructor : Cx := ⟨Try.prog,42,Try.f42,38,[],[],[.t 4,.t 5,.t 6]⟩
theorem g_scope_Constructor : Good x_scope_Constructor := ⟨Try.func42,by kernel_rfl⟩
theorem rs_scope_Constructor : x_scope_Constructor.rs = [.t 4,.t 5,.t 6] := rfl
theorem i_scope_Constructor (hl : args.length ≤ 38) (h : Run x_scope_Constructor K [.code c_scope_Constructor] (argF args) E σ) : ACalls Try.prog 42 args σ K :=
  acalls_of (cx := x_scope_Constructor) (code := Try.f42.body.getD .skip) g_scope_Constructor (by kernel_rfl) Try.ntmps42 hl (compC_rc x_scope_Constructor _ (ctOf c_scope_Constructor) _ [] (by kernel_rfl)) h
def c_scope_checker_alts_L0 : C := (.seq (.reg [⟨some 16,.bin .lss (.t 15) (.t 14),none⟩] [2,5,6,7,13,14,15,16])
 (.seq (.cond (.t 16) .skip
 (.exit 0))
 (.seq (.block 1 (.seq (.reg [⟨some 17,.mv (.t 15),none⟩,
 ⟨some 18,.ix (.t 13) (.t 15) 8,none⟩,
 ⟨some 19,.ld (.t 18) (some 8),none⟩,
 ⟨some 9,.al [(.d (.str [])),.nils,(.d (.int .i64 0)),(.d (.str [])),(.d (.int .i64 0)),.nils,.nils,.nils] false,none⟩,
 ⟨some 8,.mv (.t 17),none⟩,
 ⟨none,.st (.t 9) (.t 19) 8,none⟩] [2,5,6,7,8,9,13,14,15])
 (.seq (.reg [⟨some 21,.fld (.t 2) 2,none⟩,
 ⟨some 22,.ldl (.t 21) none,none⟩,
 ⟨some 23,.fld (.t 9) 0,none⟩,
 ⟨some 24,.ldl (.t 23) none,none⟩,
 ⟨some 25,.call 42 [(.t 22),(.t 24)],none⟩,
 ⟨some 20,.mv (.t 25),none⟩,
 ⟨some 26,.ext (.t 20) 0,none⟩,
 ⟨some 27,.ext (.t 20) 1,none⟩,
 ⟨some 28,.ext (.t 20) 2,none⟩,
 ⟨some 10,.mv (.t 26),none⟩,
 ⟨some 11,.mv (.t 27),none⟩,
 ⟨some 12,.mv (.t 28),none⟩] [2,5,6,7,8,9,10,11,12,13,14,15])
 (.seq (.seq (.reg [⟨some 29,.mv (.t 12),none⟩,
 ⟨some 30,.un .not (.t 29),none⟩] [2,5,6,7,8,9,10,11,13,14,15,30])
 (.cond (.t 30) (.seq (.reg [⟨some 4,.mv (.c (.d (.int .i64 3))),none⟩] [4])
 .ret)
 .skip))
 (.seq (.seq (.reg [⟨some 31,.fld (.t 9) 1,none⟩,
 ⟨some 32,.ldl (.t 31) none,none⟩,
 ⟨some 33,.len (.t 32),none⟩,
 ⟨some 34,.fld (.t 2) 2,none⟩,
 ⟨some 35,.ldl (.t 34) none,none⟩,
 ⟨some 36,.mv (.t 10),none⟩,
 ⟨some 37,.ix (.t 35) (.t 36) 3,none⟩,
 ⟨some 38,.fld (.t 37) 2,none⟩,
 ⟨some 39,.ld (.t 38) none,none⟩,
 ⟨some 40,.mv (.t 11),none⟩,
 ⟨some 41,.ix (.t 39) (.t 40) 2,none⟩,
 ⟨some 42,.fld (.t 41) 1,none⟩,
 ⟨some 43,.ld (.t 42) none,none⟩,
 ⟨some 44,.len (.t 43),none⟩,
 ⟨some 45,.bin .neq (.t 33) (.t 44),none⟩] [2,5,6,7,8,9,10,11,13,14,15,45])
 (.cond (.t 45) (.seq (.reg [⟨some 4,.mv (.c (.d (.int .i64 5))),none⟩] [4])
 .ret)
 .skip))
 (.seq (.seq (.reg [⟨some 46,.fld (.t 9) 1,none⟩,
 ⟨some 47,.ldl (.t 46) none,none⟩,
 ⟨some 48,.call 27 [(.t 47)],none⟩] [2,5,6,7,8,10,11,13,14,15,48])
 (.cond (.t 48) (.seq (.reg [⟨some 4,.mv (.c (.d (.int .i64 4))),none⟩] [4])
 .ret)
 .skip))
 (.seq (.seq (.reg [⟨some 49,.mv (.t 8),none⟩,
 ⟨some 50,.bin .eql (.t 49) (.c (.d (.int .i64 0))),none⟩] [2,5,6,7,10,11,13,14,15,50])
 (.cond (.t 50) (.reg [⟨some 51,.mv (.t 10),none⟩,
 ⟨some 52,.fld (.t 2) 2,none⟩,
 ⟨some 53,.ldl (.t 52) none,none⟩,
 ⟨some 54,.mv (.t 10),none⟩,
 ⟨some 55,.ix (.t 53) (.t 54) 3,none⟩,
 ⟨some 56,.fld (.t 55) 2,none⟩,
 ⟨some 57,.ld (.t 56) none,none⟩,
 ⟨some 58,.len (.t 57),none⟩,
 ⟨some 6,.mv (.t 51),none⟩,
 ⟨some 59,.msl 4 1 1 [(.d (.bool false))] (.t 58) (.t 58),none⟩,
 ⟨some 7,.mv (.t 59),none⟩] [2,5,6,7,10,11,13,14,15])
 .skip))
 (.seq (.seq (.reg [⟨some 60,.mv (.t 10),none⟩,
 ⟨some 61,.mv (.t 6),none⟩,
 ⟨some 62,.bin .neq (.t 60) (.t 61),none⟩,
 ⟨some 63,.mv (.t 62),none⟩,
 ⟨some 64,.mv (.t 7),some (63,false)⟩,
 ⟨some 65,.mv (.t 11),some (63,false)⟩,
 ⟨some 66,.ix (.t 64) (.t 65) 1,some (63,false)⟩,
 ⟨some 67,.ld (.t 66) none,some (63,false)⟩,
 ⟨some 68,.pick (.t 63) (.c (.d (.bool true))) (.t 67),none⟩] [2,5,6,7,11,13,14,15,68])
 (.cond (.t 68) (.seq (.reg [⟨some 5,.mv (.c (.d (.bool false))),none⟩] [2,5,6,7,13,14,15])
 (.exit 1))
 .skip))
 (.reg [⟨some 69,.mv (.t 7),none⟩,
 ⟨some 70,.mv (.t 11),none⟩,
 ⟨some 71,.ix (.t 69) (.t 70) 1,none⟩,
 ⟨none,.st (.t 71) (.c (.d (.bool true))) 1,none⟩] [2,5,6,7,13,14,15])))))))))
 (.reg [⟨some 72,.bin .add (.t 15) (.c (.d (.int .i64 1))),none⟩,
 ⟨some 15,.mv (.t 72),none⟩] [2,5,6,7,13,14,15]))))
def c_scope_checker_alts : C := (.seq (.reg [⟨some 2,.box (.t 0) false,none⟩,
 ⟨some 4,.mv (.c (.d (.int .i64 0))),none⟩] [1,2])
 (.seq (.reg [⟨some 5,.mv (.c (.d (.bool true))),none⟩] [1,2,5])
 (.seq (.reg [⟨some 6,.mv (.c (.d (.int .i64 0))),none⟩] [1,2,5,6])
 (.seq (.reg [⟨some 7,.mv (.c .nils),none⟩] [1,2,5,6,7])
 (.seq (.seq (.reg [⟨some 13,.mv (.t 1),none⟩,
 ⟨some 14,.len (.t 13),none⟩,
 ⟨some 15,.mv (.c (.d (.int .i64 0))),none⟩] [2,5,6,7,13,14,15])
 (.block 0 (.loop c_scope_checker_alts_L0)))
 (.seq (.seq (.reg [⟨some 73,.mv (.t 5),none⟩,
 ⟨some 74,.un .not (.t 73),none⟩,
 ⟨some 75,.mv (.t 74),none⟩,
 ⟨some 76,.mv (.t 7),some (75,false)⟩,
 ⟨some 77,.call 57 [(.t 76),(.c (.d (.bool false)))],some (75,false)⟩,
 ⟨some 78,.pick (.t 75) (.c (.d (.bool true))) (.t 77),none⟩] [78])
 (.cond (.t 78) (.seq (.reg [⟨some 4,.mv (.c (.d (.int .i64 7))),none⟩] [4])
 .ret)
 .skip))
 (.seq (.reg [⟨some 4,.mv (.c (.d (.int .i64 0))),none⟩] [4])
 .ret)))))))
def t_scope_checker_alts : List (List Nat × PT) := [([1,2],.done),([1,2,5],.done),([1,2,5,6],.done),([1,2,5,6,7],.done),([2,5,6,7,13,14,15],.done),([2,5,6,7,13,14,15,16],.done),([2,5,6,7,8,9,13,14,15],.done),([2,5,6,7,8,9,10,11,12,13,14,15],.done),([2,5,6,7,8,9,10,11,13,14,15,30],.done),([4],.done),([2,5,6,7,8,9,10,11,13,14,15,45],.done),([4],.done),([2,5,6,7,8,10,11,13,14,15,48],.done),([4],.done),([2,5,6,7,10,11,13,14,15,50],.done),([2,5,6,7,10,11,13,14,15],(.one 0 (.one 1 (.one 2 (.one 3 (.one 4 (.one 5 (.one 6 (.one 7 (.one 9 (.one 8 (.one 10 .done)))))))))))),([2,5,6,7,11,13,14,15,68],.done),([2,5,6,7,13,14,15],.done),([2,5,6,7,13,14,15],.done),([2,5,6,7,13,14,15],.done),([78],.done),([4],.done),([4],.done)]
noncomputable def x_scope_checker_alts : Cx := ⟨Try.prog,43,Try.f43,79,[300022,300024,300032,300035,300047,300053],[],[.t 4]⟩
theorem g_scope_checker_alts : Good x_scope_checker_alts := ⟨Try.func43,by kernel_rfl⟩
theorem rs_scope_checker_alts : x_scope_checker_alts.rs = [.t 4] := rfl
theorem i_scope_checker_alts (hl : args.length ≤ 79) (h : Run x_scope_checker_alts K [.code c_scope_checker_alts] (argF args) E σ) : ACalls Try.prog 43 args σ K :=
  acalls_of (cx := x_scope_checker_alts) (code := Try.f43.body.getD .skip) g_scope_checker_alts (by kernel_rfl) Try.ntmps43 hl (compC_rc x_scope_checker_alts _ t_scope_checker_alts _ [] (by kernel_rfl)) h
def c_scope_resolver_find : C := (.seq (.reg [⟨some 3,.box (.t 1) true,none⟩,
 ⟨some 4,.mv (.c (.d (.int .i64 0))),none⟩] [0,3])
 (.seq (.reg [⟨some 5,.mv (.t 0),none⟩,
 ⟨some 6,.nck (.t 5),none⟩,
 ⟨some 7,.fld (.t 6) 0,none⟩,
 ⟨some 8,.ld (.t 7) none,none⟩,
 ⟨some 9,.mkf 69 [] [(.t 3)],none⟩,
 ⟨some 10,.call 68 [(.t 8),(.t 9)],none⟩,
 ⟨some 4,.mv (.t 10),none⟩] [4])
 .ret))
noncomputable def x_scope_resolver_find : Cx := ⟨Try.prog,54,Try.f54,11,[3],[],[.t 4]⟩
theorem g_scope_resolver_find : Good x_scope_resolver_find := ⟨Try.func54,by kernel_rfl⟩
theorem rs_scope_resolver_find : x_scope_resolver_find.rs = [.t 4] := rfl
theorem i_scope_resolver_find (hl : args.length ≤ 11) (h : Run x_scope_resolver_find K [.code c_scope_resolver_find] (argF args) E σ) : ACalls Try.prog 54 args σ K :=
  acalls_of (cx := x_scope_resolver_find) (code := Try.f54.body.getD .skip) g_scope_resolver_find (by kernel_rfl) Try.ntmps54 hl (compC_rc x_scope_resolver_find _ (ctOf c_scope_resolver_find) _ [] (by kernel_rfl)) h
def c_scope_resolver_resolve_L0 : C := (.seq (.reg [⟨some 82,.bin .lss (.t 81) (.t 80),none⟩] [0,6,8,79,80,81,82])
 (.seq (.cond (.t 82) .skip
 (.exit 1))
 (.seq (.block 2 (.seq (.reg [⟨some 83,.ix (.t 79) (.t 81) 3,none⟩,
 ⟨some 84,.ld (.t 83) (some 3),none⟩,
 ⟨some 10,.al [(.d (.int .i64 0)),(.d (.str [])),.nils] false,none⟩,
 ⟨none,.st (.t 10) (.t 84) 3,none⟩] [0,6,8,10,79,80,81])
 (.seq (.reg [⟨some 86,.mv (.t 0),none⟩,
 ⟨some 87,.ldl (.t 10) (some 3),none⟩,
 ⟨some 88,.call 55 [(.t 86),(.t 87),(.c (.d (.bool false)))],none⟩,
 ⟨some 85,.mv (.t 88),none⟩,
 ⟨some 89,.ext (.t 85) 0,none⟩,
 ⟨some 90,.ext (.t 85) 1,none⟩,
 ⟨some 11,.al [(.d (.int .i64 0)),(.d (.int .i64 0)),.nils] false,none⟩,
 ⟨none,.st (.t 11) (.t 89) 3,none⟩,
 ⟨some 12,.mv (.t 90),none⟩] [0,6,8,11,12,79,80,81])
 (.seq (.seq (.reg [⟨some 91,.mv (.t 12),none⟩,
 ⟨some 92,.bin .neq (.t 91) (.c (.d (.int .i64 0))),none⟩] [0,6,8,11,12,79,80,81,92])
 (.cond (.t 92) (.seq (.reg [⟨some 93,.bld [(.d (.int .i64 0)),(.d (.int .i64 0)),.nils] [],none⟩,
 ⟨some 94,.mv (.t 12),none⟩,
 ⟨none,.st (.t 6) (.t 93) 3,none⟩,
 ⟨some 7,.mv (.t 94),none⟩] [6,7])
 .ret)
 .skip))
 (.reg [⟨some 95,.fld (.t 8) 2,none⟩,
 ⟨some 96,.ldl (.t 95) none,none⟩,
 ⟨some 97,.ldl (.t 11) (some 3),none⟩,
 ⟨some 98,.bsl 3 1 [(.d (.int .i64 0)),(.d (.int .i64 0)),.nils] [(0,3,(.t 97))],none⟩,
 ⟨some 99,.app 122 3 40 (.t 96) (.t 98),none⟩,
 ⟨some 100,.fld (.t 8) 2,none⟩,
 ⟨none,.st (.t 100) (.t 99) 1,none⟩] [0,6,8,79,80,81])))))
 (.reg [⟨some 101,.bin .add (.t 81) (.c (.d (.int .i64 1))),none⟩,
 ⟨some 81,.mv (.t 101),none⟩] [0,6,8,79,80,81]))))
def c_scope_resolver_resolve : C := (.seq (.reg [⟨some 4,.box (.t 1) false,none⟩,
 ⟨some 6,.al [(.d (.int .i64 0)),(.d (.int .i64 0)),.nils] false,none⟩,
 ⟨some 7,.mv (.c (.d (.int .i64 0))),none⟩] [0,2,4,6])
 (.seq (.reg [⟨some 13,.fld (.t 4) 0,none⟩,
 ⟨some 14,.ldl (.t 13) none,none⟩,
 ⟨some 15,.bld [(.d (.int .i64 0)),(.d (.int .i64 0)),.nils] [(0,1,(.t 14))],none⟩,
 ⟨some 8,.al [(.d (.int .i64 0)),(.d (.int .i64 0)),.nils] false,none⟩,
 ⟨none,.st (.t 8) (.t 15) 3,none⟩] [0,2,4,6,8])
 (.seq (.seq (.reg [⟨some 16,.fld (.t 4) 0,none⟩,
 ⟨some 17,.ldl (.t 16) none,none⟩] [0,2,4,6,8,17])
 (.block 0 (.seq (.reg [⟨some 19,.bin .eql (.t 17) (.c (.d (.int .i64 4))),none⟩,
 ⟨some 18,.mv (.t 19),none⟩] [0,2,4,6,8,17,18])
 (.cond (.t 18) (.seq (.reg [⟨some 20,.mv (.t 0),none⟩,
 ⟨some 21,.nck (.t 20),none⟩,
 ⟨some 22,.fld (.t 21) 1,none⟩,
 ⟨some 23,.fld (.t 22) 1,none⟩,
 ⟨some 24,.ld (.t 23) none,none⟩,
 ⟨some 25,.fld (.t 4) 1,none⟩,
 ⟨some 26,.ldl (.t 25) none,none⟩,
 ⟨some 27,.call 56 [(.t 24),(.t 26)],none⟩,
 ⟨some 28,.fld (.t 8) 1,none⟩,
 ⟨none,.st (.t 28) (.t 27) 1,none⟩] [0,4,6,8])
 (.seq (.reg [⟨some 29,.fld (.t 8) 1,none⟩,
 ⟨some 30,.ldl (.t 29) none,none⟩,
 ⟨some 31,.bin .lss (.t 30) (.c (.d (.int .i64 0))),none⟩] [0,4,6,8,31])
 (.cond (.t 31) (.seq (.reg [⟨some 32,.bld [(.d (.int .i64 0)),(.d (.int .i64 0)),.nils] [],none⟩,
 ⟨none,.st (.t 6) (.t 32) 3,none⟩,
 ⟨some 7,.mv (.c (.d (.int .i64 3))),none⟩] [6,7])
 .ret)
 .skip)))
 (.seq (.reg [⟨some 34,.bin .eql (.t 17) (.c (.d (.int .i64 5))),none⟩,
 ⟨some 33,.mv (.t 34),none⟩] [0,2,4,6,8,33])
 (.cond (.t 33) (.seq (.reg [⟨some 35,.mv (.t 0),none⟩,
 ⟨some 36,.fld (.t 4) 1,none⟩,
 ⟨some 37,.ldl (.t 36) none,none⟩,
 ⟨some 38,.call 54 [(.t 35),(.t 37)],none⟩,
 ⟨some 39,.fld (.t 8) 1,none⟩,
 ⟨none,.st (.t 39) (.t 38) 1,none⟩] [0,2,4,6,8])
 (.seq (.seq (.reg [⟨some 40,.fld (.t 8) 1,none⟩,
 ⟨some 41,.ldl (.t 40) none,none⟩,
 ⟨some 42,.bin .lss (.t 41) (.c (.d (.int .i64 0))),none⟩] [0,2,4,6,8,42])
 (.cond (.t 42) (.seq (.reg [⟨some 43,.bld [(.d (.int .i64 0)),(.d (.int .i64 0)),.nils] [],none⟩,
 ⟨none,.st (.t 6) (.t 43) 3,none⟩,
 ⟨some 7,.mv (.c (.d (.int .i64 3))),none⟩] [6,7])
 .ret)
 .skip))
 (.seq (.seq (.reg [⟨some 44,.fld (.t 4) 2,none⟩,
 ⟨some 45,.ldl (.t 44) none,none⟩,
 ⟨some 46,.len (.t 45),none⟩,
 ⟨some 47,.mv (.t 0),none⟩,
 ⟨some 48,.nck (.t 47),none⟩,
 ⟨some 49,.fld (.t 48) 0,none⟩,
 ⟨some 50,.ld (.t 49) none,none⟩,
 ⟨some 51,.fld (.t 8) 1,none⟩,
 ⟨some 52,.ldl (.t 51) none,none⟩,
 ⟨some 53,.ix (.t 50) (.t 52) 3,none⟩,
 ⟨some 54,.fld (.t 53) 1,none⟩,
 ⟨some 55,.ld (.t 54) none,none⟩,
 ⟨some 56,.bin .neq (.t 46) (.t 55),none⟩] [0,2,4,6,8,56])
 (.cond (.t 56) (.seq (.reg [⟨some 57,.bld [(.d (.int .i64 0)),(.d (.int .i64 0)),.nils] [],none⟩,
 ⟨none,.st (.t 6) (.t 57) 3,none⟩,
 ⟨some 7,.mv (.c (.d (.int .i64 5))),none⟩] [6,7])
 .ret)
 .skip))
 (.seq (.reg [⟨some 58,.fld (.t 8) 1,none⟩,
 ⟨some 59,.ldl (.t 58) none,none⟩,
 ⟨some 60,.mv (.t 0),none⟩,
 ⟨some 61,.nck (.t 60),none⟩,
 ⟨some 62,.fld (.t 61) 0,none⟩,
 ⟨some 63,.ld (.t 62) none,none⟩,
 ⟨some 64,.len (.t 63),none⟩,
 ⟨some 65,.bin .sub (.t 64) (.c (.d (.int .i64 1))),none⟩,
 ⟨some 66,.bin .eql (.t 59) (.t 65),none⟩,
 ⟨some 67,.mv (.t 66),none⟩,
 ⟨some 68,.mv (.t 2),some (67,true)⟩,
 ⟨some 69,.mv (.t 68),some (67,true)⟩,
 ⟨some 70,.mv (.t 0),some (69,true)⟩,
 ⟨some 71,.fld (.t 4) 2,some (69,true)⟩,
 ⟨some 72,.ldl (.t 71) none,some (69,true)⟩,
 ⟨some 73,.call 70 [(.t 70),(.t 72)],some (69,true)⟩,
 ⟨some 74,.pick (.t 69) (.t 73) (.c (.d (.bool false))),some (67,true)⟩,
 ⟨some 75,.un .not (.t 74),some (67,true)⟩,
 ⟨some 76,.pick (.t 67) (.t 75) (.c (.d (.bool false))),none⟩] [0,4,6,8,76])
 (.cond (.t 76) (.seq (.reg [⟨some 77,.bld [(.d (.int .i64 0)),(.d (.int .i64 0)),.nils] [],none⟩,
 ⟨none,.st (.t 6) (.t 77) 3,none⟩,
 ⟨some 7,.mv (.c (.d (.int .i64 7))),none⟩] [6,7])
 .ret)
 .skip)))))
 .skip))))))
 (.seq (.seq (.reg [⟨some 78,.fld (.t 4) 2,none⟩,
 ⟨some 79,.ldl (.t 78) none,none⟩,
 ⟨some 80,.len (.t 79),none⟩,
 ⟨some 81,.mv (.c (.d (.int .i64 0))),none⟩] [0,6,8,79,80,81])
 (.block 1 (.loop c_scope_resolver_resolve_L0)))
 (.seq (.reg [⟨some 102,.ldl (.t 8) (some 3),none⟩,
 ⟨none,.st (.t 6) (.t 102) 3,none⟩,
 ⟨some 7,.mv (.c (.d (.int .i64 0))),none⟩] [6,7])
 .ret)))))
noncomputable def x_scope_resolver_resolve : Cx := ⟨Try.prog,55,Try.f55,103,[300014,300017,300026,300030,300037,300041,300045,300052,300059,300072,300079,300087,300096,300097,300102],[],[.c 6 (some 3),.t 7]⟩
theorem g_scope_resolver_resolve : Good x_scope_resolver_resolve := ⟨Try.func55,by kernel_rfl⟩
theorem rs_scope_resolver_resolve : x_scope_resolver_resolve.rs = [.c 6 (some 3),.t 7] := rfl
theorem i_scope_resolver_resolve (hl : args.length ≤ 103) (h : Run x_scope_resolver_resolve K [.code c_scope_resolver_resolve] (argF args) E σ) : ACalls Try.prog 55 args σ K :=
  acalls_of (cx := x_scope_resolver_resolve) (code := Try.f55.body.getD .skip) g_scope_resolver_resolve (by kernel_rfl) Try.ntmps55 hl (compC_rc x_scope_resolver_resolve _ (ctOf c_scope_resolver_resolve) _ [] (by kernel_rfl)) h
def c_slices_Index_string_L0 : C := (.seq (.reg [⟨some 9,.bin .lss (.t 8) (.t 7),none⟩] [0,1,7,8,9])
 (.seq (.cond (.t 9) .skip
 (.exit 0))
 (.seq (.block 1 (.seq (.reg [⟨some 10,.mv (.t 8),none⟩,
 ⟨some 5,.mv (.t 10),none⟩] [0,1,5,7,8])
 (.seq (.reg [⟨some 11,.mv (.t 1),none⟩,
 ⟨some 12,.mv (.t 0),none⟩,
 ⟨some 13,.mv (.t 5),none⟩,
 ⟨some 14,.ix (.t 12) (.t 13) 1,none⟩,
 ⟨some 15,.ld (.t 14) none,none⟩,
 ⟨some 16,.bin .eql (.t 11) (.t 15),none⟩] [0,1,5,7,8,16])
 (.cond (.t 16) (.seq (.reg [⟨some 17,.mv (.t 5),none⟩,
 ⟨some 4,.mv (.t 17),none⟩] [4])
 .ret)
 .skip))))
 (.reg [⟨some 18,.bin .add (.t 8) (.c (.d (.int .i64 1))),none⟩,
 ⟨some 8,.mv (.t 18),none⟩] [0,1,7,8]))))
def c_slices_Index_string : C := (.seq (.reg [⟨some 4,.mv (.c (.d (.int .i64 0))),none⟩] [0,1])
 (.seq (.seq (.reg [⟨some 6,.mv (.t 0),none⟩,
 ⟨some 7,.len (.t 6),none⟩,
 ⟨some 8,.mv (.c (.d (.int .i64 0))),none⟩] [0,1,7,8])
 (.block 0 (.loop c_slices_Index_string_L0)))
 (.seq (.reg [⟨some 4,.mv (.c (.d (.int .i64 (-1)))),none⟩] [4])
 .ret)))
noncomputable def x_slices_Index_string : Cx := ⟨Try.prog,56,Try.f56,19,[],[],[.t 4]⟩
theorem g_slices_Index_string : Good x_slices_Index_string := ⟨Try.func56,by kernel_rfl⟩
theorem rs_slices_Index_string : x_slices_Index_string.rs = [.t 4] := rfl
theorem i_slices_Index_string (hl : args.length ≤ 19) (h : Run x_slices_Index_string K [.code c_slices_Index_string] (argF args) E σ) : ACalls Try.prog 56 args σ K :=
  acalls_of (cx := x_slices_Index_string) (code := Try.f56.body.getD .skip) g_slices_Index_string (by kernel_rfl) Try.ntmps56 hl (compC_rc x_slices_Index_string _ (ctOf c_slices_Index_string) _ [] (by kernel_rfl)) h
def c_slices_Contains_bool : C := (.seq (.reg [⟨some 4,.mv (.c (.d (.bool false))),none⟩] [0,1])
 (.seq (.reg [⟨some 5,.mv (.t 0),none⟩,
 ⟨some 6,.mv (.t 1),none⟩,
 ⟨some 7,.call 71 [(.t 5),(.t 6)],none⟩,
 ⟨some 8,.bin .geq (.t 7) (.c (.d (.int .i64 0))),none⟩,
 ⟨some 4,.mv (.t 8),none⟩] [4])
 .ret))
noncomputable def x_slices_Contains_bool : Cx := ⟨Try.prog,57,Try.f57,9,[],[],[.t 4]⟩
theorem g_slices_Contains_bool : Good x_slices_Contains_bool := ⟨Try.func57,by kernel_rfl⟩
theorem rs_slices_Contains_bool : x_slices_Contains_bool.rs = [.t 4] := rfl
theorem i_slices_Contains_bool (hl : args.length ≤ 9) (h : Run x_slices_Contains_bool K [.code c_slices_Contains_bool] (argF args) E σ) : ACalls Try.prog 57 args σ K :=
  acalls_of (cx := x_slices_Contains_bool) (code := Try.f57.body.getD .skip) g_slices_Contains_bool (by kernel_rfl) Try.ntmps57 hl (compC_rc x_slices_Contains_bool _ (ctOf c_slices_Contains_bool) _ [] (by kernel_rfl)) h
def c_slices_IndexFunc_api_Data_L0 : C := (.seq (.reg [⟨some 9,.bin .lss (.t 8) (.t 7),none⟩] [0,1,7,8,9])
 (.seq (.cond (.t 9) .skip
 (.exit 0))
 (.seq (.block 1 (.seq (.reg [⟨some 10,.mv (.t 8),none⟩,
 ⟨some 5,.mv (.t 10),none⟩] [0,1,5,7,8])
 (.seq (.reg [⟨some 11,.mv (.t 1),none⟩,
 ⟨some 12,.mv (.t 0),none⟩,
 ⟨some 13,.mv (.t 5),none⟩,
 ⟨some 14,.ix (.t 12) (.t 13) 3,none⟩,
 ⟨some 15,.ld (.t 14) (some 3),none⟩,
 ⟨some 16,.callv (.t 11) [(.t 15)],none⟩] [0,1,5,7,8,16])
 (.cond (.t 16) (.seq (.reg [⟨some 17,.mv (.t 5),none⟩,
 ⟨some 4,.mv (.t 17),none⟩] [4])
 .ret)
 .skip))))
 (.reg [⟨some 18,.bin .add (.t 8) (.c (.d (.int .i64 1))),none⟩,
 ⟨some 8,.mv (.t 18),none⟩] [0,1,7,8]))))
def c_slices_IndexFunc_api_Data : C := (.seq (.reg [⟨some 4,.mv (.c (.d (.int .i64 0))),none⟩] [0,1])
 (.seq (.seq (.reg [⟨some 6,.mv (.t 0),none⟩,
 ⟨some 7,.len (.t 6),none⟩,
 ⟨some 8,.mv (.c (.d (.int .i64 0))),none⟩] [0,1,7,8])
 (.block 0 (.loop c_slices_IndexFunc_api_Data_L0)))
 (.seq (.reg [⟨some 4,.mv (.c (.d (.int .i64 (-1)))),none⟩] [4])
 .ret)))
noncomputable def x_slices_IndexFunc_api_Data : Cx := ⟨Try.prog,68,Try.f68,19,[],[],[.t 4]⟩
theorem g_slices_IndexFunc_api_Data : Good x_slices_IndexFunc_api_Data := ⟨Try.func68,by kernel_rfl⟩
theorem rs_slices_IndexFunc_api_Data : x_slices_IndexFunc_api_Data.rs = [.t 4] := rfl
theorem i_slices_IndexFunc_api_Data (hl : args.length ≤ 19) (h : Run x_slices_IndexFunc_api_Data K [.code c_slices_IndexFunc_api_Data] (argF args) E σ) : ACalls Try.prog 68 args σ K :=
  acalls_of (cx := x_slices_IndexFunc_api_Data) (code := Try.f68.body.getD .skip) g_slices_IndexFunc_api_Data (by kernel_rfl) Try.ntmps68 hl (compC_rc x_slices_IndexFunc_api_Data _ (ctOf c_slices_IndexFunc_api_Data) _ [] (by kernel_rfl)) h
def c_scope_resolver_find_1 : C := (.seq (.reg [⟨some 2,.box (.t 0) false,none⟩,
 ⟨some 3,.mv (.c (.d (.bool false))),none⟩] [1,2])
 (.seq (.reg [⟨some 4,.fld (.t 2) 0,none⟩,
 ⟨some 5,.ldl (.t 4) none,none⟩,
 ⟨some 6,.ld (.t 1) none,none⟩,
 ⟨some 7,.bin .eql (.t 5) (.t 6),none⟩,
 ⟨some 3,.mv (.t 7),none⟩] [3])
 .ret))
noncomputable def x_scope_resolver_find_1 : Cx := ⟨Try.prog,69,Try.f69,8,[300005],[],[.t 3]⟩
theorem g_scope_resolver_find_1 : Good x_scope_resolver_find_1 := ⟨Try.func69,by kernel_rfl⟩
theorem rs_scope_resolver_find_1 : x_scope_resolver_find_1.rs = [.t 3] := rfl
theorem i_scope_resolver_find_1 (hl : args.length ≤ 8) (h : Run x_scope_resolver_find_1 K [.code c_scope_resolver_find_1] (argF args) E σ) : ACalls Try.prog 69 args σ K :=
  acalls_of (cx := x_scope_resolver_find_1) (code := Try.f69.body.getD .skip) g_scope_resolver_find_1 (by kernel_rfl) Try.ntmps69 hl (compC_rc x_scope_resolver_find_1 _ (ctOf c_scope_resolver_find_1) _ [] (by kernel_rfl)) h
def c_scope_resolver_parameters : C := (.seq (.reg [⟨some 4,.mv (.c (.d (.bool false))),none⟩] [0,1])
 (.seq (.reg [⟨some 5,.mv (.t 1),none⟩,
 ⟨some 6,.mv (.t 0),none⟩,
 ⟨some 7,.nck (.t 6),none⟩,
 ⟨some 8,.fld (.t 7) 1,none⟩,
 ⟨some 9,.fld (.t 8) 1,none⟩,
 ⟨some 10,.ld (.t 9) none,none⟩,
 ⟨some 11,.call 86 [(.t 5),(.t 10),(.c (.fn 87 [] []))],none⟩,
 ⟨some 4,.mv (.t 11),none⟩] [4])
 .ret))
noncomputable def x_scope_resolver_parameters : Cx := ⟨Try.prog,70,Try.f70,12,[],[],[.t 4]⟩
theorem g_scope_resolver_parameters : Good x_scope_resolver_parameters := ⟨Try.func70,by kernel_rfl⟩
theorem rs_scope_resolver_parameters : x_scope_resolver_parameters.rs = [.t 4] := rfl
theorem i_scope_resolver_parameters (hl : args.length ≤ 12) (h : Run x_scope_resolver_parameters K [.code c_scope_resolver_parameters] (argF args) E σ) : ACalls Try.prog 70 args σ K :=
  acalls_of (cx := x_scope_resolver_parameters) (code := Try.f70.body.getD .skip) g_scope_resolver_parameters (by kernel_rfl) Try.ntmps70 hl (compC_rc x_scope_resolver_parameters _ (ctOf c_scope_resolver_parameters) _ [] (by kernel_rfl)) h
def c_slices_Index_bool_L0 : C := (.seq (.reg [⟨some 9,.bin .lss (.t 8) (.t 7),none⟩] [0,1,7,8,9])
 (.seq (.cond (.t 9) .skip
 (.exit 0))
 (.seq (.block 1 (.seq (.reg [⟨some 10,.mv (.t 8),none⟩,
 ⟨some 5,.mv (.t 10),none⟩] [0,1,5,7,8])
 (.seq (.reg [⟨some 11,.mv (.t 1),none⟩,
 ⟨some 12,.mv (.t 0),none⟩,
 ⟨some 13,.mv (.t 5),none⟩,
 ⟨some 14,.ix (.t 12) (.t 13) 1,none⟩,
 ⟨some 15,.ld (.t 14) none,none⟩,
 ⟨some 16,.binb .eql (.t 11) (.t 15),none⟩] [0,1,5,7,8,16])
 (.cond (.t 16) (.seq (.reg [⟨some 17,.mv (.t 5),none⟩,
 ⟨some 4,.mv (.t 17),none⟩] [4])
 .ret)
 .skip))))
 (.reg [⟨some 18,.bin .add (.t 8) (.c (.d (.int .i64 1))),none⟩,
 ⟨some 8,.mv (.t 18),none⟩] [0,1,7,8]))))
def c_slices_Index_bool : C := (.seq (.reg [⟨some 4,.mv (.c (.d (.int .i64 0))),none⟩] [0,1])
 (.seq (.seq (.reg [⟨some 6,.mv (.t 0),none⟩,
 ⟨some 7,.len (.t 6),none⟩,
 ⟨some 8,.mv (.c (.d (.int .i64 0))),none⟩] [0,1,7,8])
 (.block 0 (.loop c_slices_Index_bool_L0)))
 (.seq (.reg [⟨some 4,.mv (.c (.d (.int .i64 (-1)))),none⟩] [4])
 .ret)))
noncomputable def x_slices_Index_bool : Cx := ⟨Try.prog,71,Try.f71,19,[],[],[.t 4]⟩
theorem g_slices_Index_bool : Good x_slices_Index_bool := ⟨Try.func71,by kernel_rfl⟩
theorem rs_slices_Index_bool : x_slices_Index_bool.rs = [.t 4] := rfl
theorem i_slices_Index_bool (hl : args.length ≤ 19) (h : Run x_slices_Index_bool K [.code c_slices_Index_bool] (argF args) E σ) : ACalls Try.prog 71 args σ K :=
  acalls_of (cx := x_slices_Index_bool) (code := Try.f71.body.getD .skip) g_slices_Index_bool (by kernel_rfl) Try.ntmps71 hl (compC_rc x_slices_Index_bool _ (ctOf c_slices_Index_bool) _ [] (by kernel_rfl)) h
def c_slices_EqualFunc_string_L0 : C := (.seq (.reg [⟨some 18,.bin .lss (.t 17) (.t 16),none⟩] [1,2,15,16,17,18])
 (.seq (.cond (.t 18) .skip
 (.exit 0))
 (.seq (.block 1 (.seq (.reg [⟨some 19,.mv (.t 17),none⟩,
 ⟨some 20,.ix (.t 15) (.t 17) 3,none⟩,
 ⟨some 21,.ld (.t 20) (some 3),none⟩,
 ⟨some 8,.al [(.d (.int .i64 0)),(.d (.str [])),.nils] false,none⟩,
 ⟨some 7,.mv (.t 19),none⟩,
 ⟨none,.st (.t 8) (.t 21) 3,none⟩] [1,2,7,8,15,16,17])
 (.seq (.reg [⟨some 22,.mv (.t 1),none⟩,
 ⟨some 23,.mv (.t 7),none⟩,
 ⟨some 24,.ix (.t 22) (.t 23) 1,none⟩,
 ⟨some 25,.ld (.t 24) none,none⟩,
 ⟨some 9,.mv (.t 25),none⟩] [1,2,8,9,15,16,17])
 (.seq (.reg [⟨some 26,.mv (.t 2),none⟩,
 ⟨some 27,.ldl (.t 8) (some 3),none⟩,
 ⟨some 28,.mv (.t 9),none⟩,
 ⟨some 29,.callv (.t 26) [(.t 27),(.t 28)],none⟩,
 ⟨some 30,.un .not (.t 29),none⟩] [1,2,15,16,17,30])
 (.cond (.t 30) (.seq (.reg [⟨some 6,.mv (.c (.d (.bool false))),none⟩] [6])
 .ret)
 .skip)))))
 (.reg [⟨some 31,.bin .add (.t 17) (.c (.d (.int .i64 1))),none⟩,
 ⟨some 17,.mv (.t 31),none⟩] [1,2,15,16,17]))))
def c_slices_EqualFunc_string : C := (.seq (.reg [⟨some 6,.mv (.c (.d (.bool false))),none⟩] [0,1,2])
 (.seq (.seq (.reg [⟨some 10,.mv (.t 0),none⟩,
 ⟨some 11,.len (.t 10),none⟩,
 ⟨some 12,.mv (.t 1),none⟩,
 ⟨some 13,.len (.t 12),none⟩,
 ⟨some 14,.bin .neq (.t 11) (.t 13),none⟩] [0,1,2,14])
 (.cond (.t 14) (.seq (.reg [⟨some 6,.mv (.c (.d (.bool false))),none⟩] [6])
 .ret)
 .skip))
 (.seq (.seq (.reg [⟨some 15,.mv (.t 0),none⟩,
 ⟨some 16,.len (.t 15),none⟩,
 ⟨some 17,.mv (.c (.d (.int .i64 0))),none⟩] [1,2,15,16,17])
 (.block 0 (.loop c_slices_EqualFunc_string_L0)))
 (.seq (.reg [⟨some 6,.mv (.c (.d (.bool true))),none⟩] [6])
 .ret))))
noncomputable def x_slices_EqualFunc_string : Cx := ⟨Try.prog,86,Try.f86,32,[300027],[],[.t 6]⟩
theorem g_slices_EqualFunc_string : Good x_slices_EqualFunc_string := ⟨Try.func86,by kernel_rfl⟩
theorem rs_slices_EqualFunc_string : x_slices_EqualFunc_string.rs = [.t 6] := rfl
theorem i_slices_EqualFunc_string (hl : args.length ≤ 32) (h : Run x_slices_EqualFunc_string K [.code c_slices_EqualFunc_string] (argF args) E σ) : ACalls Try.prog 86 args σ K :=
  acalls_of (cx := x_slices_EqualFunc_string) (code := Try.f86.body.getD .skip) g_slices_EqualFunc_string (by kernel_rfl) Try.ntmps86 hl (compC_rc x_slices_EqualFunc_string _ (ctOf c_slices_EqualFunc_string) _ [] (by kernel_rfl)) h
def c_scope_resolver_parameters_1 : C := (.seq (.reg [⟨some 2,.box (.t 0) false,none⟩,
 ⟨some 4,.mv (.c (.d (.bool false))),none⟩] [1,2])
 (.seq (.reg [⟨some 5,.fld (.t 2) 0,none⟩,
 ⟨some 6,.ldl (.t 5) none,none⟩,
 ⟨some 7,.bin .eql (.t 6) (.c (.d (.int .i64 4))),none⟩,
 ⟨some 8,.mv (.t 7),none⟩,
 ⟨some 9,.fld (.t 2) 1,some (8,true)⟩,
 ⟨some 10,.ldl (.t 9) none,some (8,true)⟩,
 ⟨some 11,.mv (.t 1),some (8,true)⟩,
 ⟨some 12,.bin .eql (.t 10) (.t 11),some (8,true)⟩,
 ⟨some 13,.pick (.t 8) (.t 12) (.c (.d (.bool false))),none⟩,
 ⟨some 4,.mv (.t 13),none⟩] [4])
 .ret))
noncomputable def x_scope_resolver_parameters_1 : Cx := ⟨Try.prog,87,Try.f87,14,[300006,300010],[],[.t 4]⟩
theorem g_scope_resolver_parameters_1 : Good x_scope_resolver_parameters_1 := ⟨Try.func87,by kernel_rfl⟩
theorem rs_scope_resolver_parameters_1 : x_scope_resolver_parameters_1.rs = [.t 4] := rfl
theorem i_scope_resolver_parameters_1 (hl : args.length ≤ 14) (h : Run x_scope_resolver_parameters_1 K [.code c_scope_resolver_parameters_1] (argF args) E σ) : ACalls Try.prog 87 args σ K :=
  acalls_of (cx := x_scope_resolver_parameters_1) (code := Try.f87.body.getD .skip) g_scope_resolver_parameters_1 (by kernel_rfl) Try.ntmps87 hl (compC_rc x_scope_resolver_parameters_1 _ (ctOf c_scope_resolver_parameters_1) _ [] (by kernel_rfl)) h
attribute [go_sem] rs_scope_Check rs_scope_Calls rs_scope_Data rs_scope_function rs_scope_repeated rs_scope_walkFun rs_scope_checker_visit rs_scope_Calls_1 rs_scope_binding_has rs_scope_resolver_declare rs_slices_IndexFunc_api_FunExpr rs_scope_function_1 rs_slices_Contains_string rs_scope_walker_walk rs_scope_binding_with rs_scope_Constructor rs_scope_checker_alts rs_scope_resolver_find rs_scope_resolver_resolve rs_slices_Index_string rs_slices_Contains_bool rs_slices_IndexFunc_api_Data rs_scope_resolver_find_1 rs_scope_resolver_parameters rs_slices_Index_bool rs_slices_EqualFunc_string rs_scope_resolver_parameters_1
end Go.Ab
