/- Programs with their variables set apart: the whole expression. The compact codes of the functions of this seat, computed out of the translation. Conditions: none. -/
import Derived.Test.YtlckhmkeihbhmaaGreatProg
import Derived.KernelRfl
import Derived.Test.YtlckhmkeihbhmaaGreatXYe
set_option linter.unusedSimpArgs false
set_option linter.unusedVariables false
set_option maxRecDepth 4000
set_option maxHeartbeats 8000000
open List renaming length_map→AA,map_cons→AH,map_nil→AM
open Int renaming reduceBEq→AW
namespace Go.Ab
open Go.Proofs
theorem mD (rows:List (List DV)):Yn rows none (some (.d (.int .i64 rows.length))) (some (.d (.int .i64 rows.length))) 1=some (.clip rows):=by
 simp [Yn,SF,Oq]
theorem Wp:∀(N:Nat) (e:Ex),e.size≤N→e.size≤100000→e.sm→Yy e (10000000 - 20 * e.size):=by
 intro N
 induction N with
 |zero=>intro t h;have:=Ex.size_pos t;omega
 |succ N ihN=>
 rintro ⟨o,n,u,ns,ks,al⟩ hN hsz hsm sc σ hsc
 simp only [Ex.size] at hN hsz hsc
 rw [Ex.sm,Ex.Iw,Al.Iw] at hsm
 obtain ⟨hn40,hns,hks,hal⟩:=hsm
 have hlen:=Ex.CY ks
 have hlen2:=Al.CY al
 have hsn:=UT ns hns σ
 have hsn1:=mI n hn40 σ
 have hcl:=mD (sc.map Ak)
 rw [AA] at hcl
 have hk1:∀x∈ks,Yy x (10000000 - 20 * (1+Ex.A2 ks+Al.A2 al)+20):=fun x hx inn σ hi=>by
  have:=Ex.G2 hx
  exact ihN x (by omega) (by omega) (hks x hx) inn σ (by omega)
 have hk2:∀c vs b,Al.mk c vs b∈al→Yy b (10000000 - 20 * (1+Ex.A2 ks+Al.A2 al)+20):=fun c vs b hx inn σ hi=>by
  have:=Al.G2 hx
  have hm:=hal _ hx
  rw [Al.sm] at hm
  rw [Al.size] at this
  exact ihN b (by omega) (by omega) hm.2.2 inn σ (by omega)
 have hk3:∀c vs b,Al.mk c vs b∈al→Y8 vs:=fun c vs b hx=>by
  have hm:=hal _ hx
  rw [Al.sm] at hm
  exact hm.2.1
 have hns10:=hns.1
 rw [Ex.loc,exA,exA,Ex.A3,Ex.A3]
 simp only [AH,AM]
 refine YK (by simp) ?_
 rw [K7]
 have hsel:o=4∨o=7∨o=17∨(o≠4∧o≠7∧o≠17):=by omega
 rcases hsel with hs|hs|hs|⟨h4,h7,h17⟩
 · subst hs
   have hl:M8 4 n sc=if sc.contains n then n++qq else n:=if_pos rfl
   rw [hl]
   (repeat' (first|refine Run.ct rfl ?_|((first|refine Run.reg mixed ?_|refine Run.AD ?_|refine AI.det (hsn) ?_|(refine BO rfl (fun h=>?_) (fun h=>?_)<;>try (cases h;done)))<;>try simp -implicitDefEqProofs only [hcl,AA,AW,go_sem])|(refine ⟨fun h=>?_,fun h=>?_⟩<;>first|(cases h;done)|try simp only [h])|fail))
   refine qL _ _ _ _ n hn40 u ns ks al sc (by omega) ?_
   unfold lcL
   (repeat' (first|refine Run.ct rfl ?_|((first|refine Run.reg mixed ?_|refine Run.AD ?_|(refine BO rfl (fun h=>?_) (fun h=>?_)<;>try (cases h;done)))<;>try simp -implicitDefEqProofs only [AA,go_sem])|(refine ⟨fun h=>?_,fun h=>?_⟩<;>first|(cases h;done)|try simp only [h])|fail))
   refine Y2 _ _ _ _ n u ns (by omega) ks (by omega) al _ sc _ (by omega) (by omega) hk1 (fun v τ ho=>?_)
   unfold lcL
   (repeat' (first|refine Run.ct rfl ?_|((first|refine Run.reg mixed ?_|refine Run.AD ?_|(refine BO rfl (fun h=>?_) (fun h=>?_)<;>try (cases h;done)))<;>try simp -implicitDefEqProofs only [ho.cell,ho.cells,ho.BF,ho.BG,AA,go_sem])|(refine ⟨fun h=>?_,fun h=>?_⟩<;>first|(cases h;done)|try simp only [h])|fail))
   refine Y3 _ _ _ _ u ns al (by omega) _ v ho.cells ho.cell sc _ (by omega) (by omega) hk3 hk2 (fun v2 τ2 ho2=>?_)
   unfold Y0
   (repeat' (first|refine Run.ct rfl ?_|((first|refine Run.reg mixed ?_|refine Run.AD ?_|(refine Run.A1 Hq (σ2:=σ) (AF.le_trans ho.le ho2.le) ?_)|(refine BO rfl (fun h=>?_) (fun h=>?_)<;>try (cases h;done)))<;>try simp -implicitDefEqProofs only [ho.cell,ho.cells,ho.BF,ho.BG,ho2.cell,ho2.cells,ho2.BF,ho2.BG,go_sem])|(refine ⟨fun h=>?_,fun h=>?_⟩<;>first|(cases h;done)|try simp only [h])|fail))
   simp -implicitDefEqProofs only [ho.plain,ho.BF,ho2.plain,ho2.BF,go_sem]
 · subst hs
   have hl:M8 7 n sc=s2 n:=rfl
   rw [hl]
   (repeat' (first|refine Run.ct rfl ?_|((first|refine Run.reg mixed ?_|refine Run.AD ?_|refine AI.det (hsn) ?_|refine AI.det (hsn1) ?_|(refine BO rfl (fun h=>?_) (fun h=>?_)<;>try (cases h;done)))<;>try simp -implicitDefEqProofs only [hcl,AA,AW,ixz,go_sem])|(refine ⟨fun h=>?_,fun h=>?_⟩<;>first|(cases h;done)|try simp only [h])|fail))
   refine Y2 _ _ _ _ n u ns (by omega) ks (by omega) al _ sc _ (by omega) (by omega) hk1 (fun v τ ho=>?_)
   unfold lcL
   (repeat' (first|refine Run.ct rfl ?_|((first|refine Run.reg mixed ?_|refine Run.AD ?_|(refine BO rfl (fun h=>?_) (fun h=>?_)<;>try (cases h;done)))<;>try simp -implicitDefEqProofs only [ho.cell,ho.cells,ho.BF,ho.BG,AA,go_sem])|(refine ⟨fun h=>?_,fun h=>?_⟩<;>first|(cases h;done)|try simp only [h])|fail))
   refine Y3 _ _ _ _ u ns al (by omega) _ v ho.cells ho.cell sc _ (by omega) (by omega) hk3 hk2 (fun v2 τ2 ho2=>?_)
   unfold Y0
   (repeat' (first|refine Run.ct rfl ?_|((first|refine Run.reg mixed ?_|refine Run.AD ?_|(refine Run.A1 Hq (σ2:=σ) (AF.le_trans ho.le ho2.le) ?_)|(refine BO rfl (fun h=>?_) (fun h=>?_)<;>try (cases h;done)))<;>try simp -implicitDefEqProofs only [ho.cell,ho.cells,ho.BF,ho.BG,ho2.cell,ho2.cells,ho2.BF,ho2.BG,go_sem])|(refine ⟨fun h=>?_,fun h=>?_⟩<;>first|(cases h;done)|try simp only [h])|fail))
   simp -implicitDefEqProofs only [ho.plain,ho.BF,ho2.plain,ho2.BF,go_sem]
 · subst hs
   have hl:M8 17 n sc=s2 n:=rfl
   rw [hl]
   (repeat' (first|refine Run.ct rfl ?_|((first|refine Run.reg mixed ?_|refine Run.AD ?_|refine AI.det (hsn) ?_|refine AI.det (hsn1) ?_|(refine BO rfl (fun h=>?_) (fun h=>?_)<;>try (cases h;done)))<;>try simp -implicitDefEqProofs only [hcl,AA,AW,ixz,go_sem])|(refine ⟨fun h=>?_,fun h=>?_⟩<;>first|(cases h;done)|try simp only [h])|fail))
   refine Y2 _ _ _ _ n u ns (by omega) ks (by omega) al _ sc _ (by omega) (by omega) hk1 (fun v τ ho=>?_)
   unfold lcL
   (repeat' (first|refine Run.ct rfl ?_|((first|refine Run.reg mixed ?_|refine Run.AD ?_|(refine BO rfl (fun h=>?_) (fun h=>?_)<;>try (cases h;done)))<;>try simp -implicitDefEqProofs only [ho.cell,ho.cells,ho.BF,ho.BG,AA,go_sem])|(refine ⟨fun h=>?_,fun h=>?_⟩<;>first|(cases h;done)|try simp only [h])|fail))
   refine Y3 _ _ _ _ u ns al (by omega) _ v ho.cells ho.cell sc _ (by omega) (by omega) hk3 hk2 (fun v2 τ2 ho2=>?_)
   unfold Y0
   (repeat' (first|refine Run.ct rfl ?_|((first|refine Run.reg mixed ?_|refine Run.AD ?_|(refine Run.A1 Hq (σ2:=σ) (AF.le_trans ho.le ho2.le) ?_)|(refine BO rfl (fun h=>?_) (fun h=>?_)<;>try (cases h;done)))<;>try simp -implicitDefEqProofs only [ho.cell,ho.cells,ho.BF,ho.BG,ho2.cell,ho2.cells,ho2.BF,ho2.BG,go_sem])|(refine ⟨fun h=>?_,fun h=>?_⟩<;>first|(cases h;done)|try simp only [h])|fail))
   simp -implicitDefEqProofs only [ho.plain,ho.BF,ho2.plain,ho2.BF,go_sem]
 · have hl:M8 o n sc=n:=by rw [M8,if_neg h4,if_neg (by omega)]
   rw [hl]
   (repeat' (first|refine Run.ct rfl ?_|((first|refine Run.reg mixed ?_|refine Run.AD ?_|refine AI.det (hsn) ?_|(refine BO rfl (fun h=>?_) (fun h=>?_)<;>try (cases h;done)))<;>try simp -implicitDefEqProofs only [hcl,AA,CA h4,CA h7,CA h17,go_sem])|(refine ⟨fun h=>?_,fun h=>?_⟩<;>first|(cases h;done)|try simp only [h])|fail))
   refine Y2 _ _ _ _ n u ns (by omega) ks (by omega) al _ sc _ (by omega) (by omega) hk1 (fun v τ ho=>?_)
   unfold lcL
   (repeat' (first|refine Run.ct rfl ?_|((first|refine Run.reg mixed ?_|refine Run.AD ?_|(refine BO rfl (fun h=>?_) (fun h=>?_)<;>try (cases h;done)))<;>try simp -implicitDefEqProofs only [ho.cell,ho.cells,ho.BF,ho.BG,AA,go_sem])|(refine ⟨fun h=>?_,fun h=>?_⟩<;>first|(cases h;done)|try simp only [h])|fail))
   refine Y3 _ _ _ _ u ns al (by omega) _ v ho.cells ho.cell sc _ (by omega) (by omega) hk3 hk2 (fun v2 τ2 ho2=>?_)
   unfold Y0
   (repeat' (first|refine Run.ct rfl ?_|((first|refine Run.reg mixed ?_|refine Run.AD ?_|(refine Run.A1 Hq (σ2:=σ) (AF.le_trans ho.le ho2.le) ?_)|(refine BO rfl (fun h=>?_) (fun h=>?_)<;>try (cases h;done)))<;>try simp -implicitDefEqProofs only [ho.cell,ho.cells,ho.BF,ho.BG,ho2.cell,ho2.cells,ho2.BF,ho2.BG,go_sem])|(refine ⟨fun h=>?_,fun h=>?_⟩<;>first|(cases h;done)|try simp only [h])|fail))
   simp -implicitDefEqProofs only [ho.plain,ho.BF,ho2.plain,ho2.BF,go_sem]
end Go.Ab
namespace Go.Ab
open Go.Proofs
variable {args:List AV} {σ:AF} {K:AV→AF→Prop}
def Mu:C:=(.seq (.reg [Qo 26 (.bin .lss (.t 25) (.t 24))] [1,3,23,24,25,26])
 (.seq (.cond (.t 26) .skip
 (.exit 0))
 (.seq (.block 1 (.seq (.reg [Qo 27 (.ix (.t 23) (.t 25) 8),
 Qo 28 (.ld (.t 27) (some 8)),
 Qo 5 (.al [(.d (.str [])),.AU,(.d (.int .i64 0)),(.d (.str [])),(.d (.int .i64 0)),.AU,.AU,.AU] false),
 ⟨none,.st (.t 5) (.t 28) 8,none⟩] [1,3,5,23,24,25])
 (.seq (.reg [Qo 29 (.fld (.t 5) 0),
 Qo 30 (.ldl (.t 29) none),
 Qo 31 (.Fv (.t 30)),
 Qm 6 31] [1,3,5,6,23,24,25])
 (.seq (.reg [Qm 32 6,
 Qo 33 (.bin .geq (.t 32) (.c (.d (.int .i64 2)))),
 Qm 34 33,
 ⟨some 35,.fld (.t 5) 0,some (34,true)⟩,
 ⟨some 36,.ldl (.t 35) none,some (34,true)⟩,
 ⟨some 37,.mv (.t 6),some (34,true)⟩,
 ⟨some 38,.bin .sub (.t 37) (.c (.d (.int .i64 2))),some (34,true)⟩,
 ⟨some 39,.ssl (.t 36) (some (.t 38)) none,some (34,true)⟩,
 ⟨some 40,.bin .eql (.t 39) (.c (.d (.str [81,81]))),some (34,true)⟩,
 Qo 41 (.pick (.t 34) (.t 40) (.c (.d (.bool false))))] [1,3,23,24,25,41])
 (.cond (.t 41) (.seq (.reg [Qo 42 (.call 14 []),
 Qm 2 42] [2])
 .ret)
 .skip)))))
 (.reg [Qo 43 (.bin .add (.t 25) (.c (.d (.int .i64 1)))),
 Qm 25 43] [1,3,23,24,25]))))
def Pc:C:=(.seq (.reg [Qo 1 (.box (.t 0) false),
 Qo 2 (.mv (.c (.d (.bool false))))] [1])
 (.seq (.seq (.reg [Qo 7 (.ldl (.t 1) (some 2)),
 Qo 8 (.call 8 [(.t 7)]),
 Qo 9 (.un .not (.t 8)),
 Qm 10 9,
 ⟨some 11,.ldl (.t 1) (some 2),some (10,false)⟩,
 ⟨some 12,.call 15 [(.t 11)],some (10,false)⟩,
 ⟨some 13,.fd (.t 12) 0 none,some (10,false)⟩,
 ⟨some 14,.bin .neq (.t 13) (.c (.d (.int .i64 0))),some (10,false)⟩,
 Qo 15 (.pick (.t 10) (.c (.d (.bool true))) (.t 14)),
 Qm 16 15,
 ⟨some 17,.ldl (.t 1) (some 2),some (16,false)⟩,
 ⟨some 18,.call 16 [(.t 17),(.c (.d (.int .i64 22)))],some (16,false)⟩,
 Qo 19 (.pick (.t 16) (.c (.d (.bool true))) (.t 18))] [1,19])
 (.cond (.t 19) (.seq (.reg [Qo 2 (.mv (.c (.d (.bool true))))] [2])
 .ret)
 .skip))
 (.seq (.reg [Qo 20 (.ldl (.t 1) (some 2)),
 Qo 21 (.call 17 [(.t 20),(.c (.d (.str [81,81])))]),
 Qo 3 (.al [.AU,.AU] false),
 ⟨none,.st (.t 3) (.t 21) 2,none⟩] [1,3])
 (.seq (.seq (.reg [Qo 22 (.fld (.t 1) 1),
 Qo 23 (.ldl (.t 22) none),
 Qo 24 (.len (.t 23)),
 Qo 25 (.mv (.c (.d (.int .i64 0))))] [1,3,23,24,25])
 (.block 0 (.loop Mu)))
 (.seq (.reg [Qo 44 (.ldl (.t 3) (some 2)),
 Qo 45 (.call 18 [(.t 44)]),
 Qo 46 (.fd (.t 45) 0 none),
 Qo 47 (.bin .eql (.t 46) (.c (.d (.int .i64 0)))),
 Qm 48 47,
 ⟨some 49,.ldl (.t 1) (some 2),some (48,true)⟩,
 ⟨some 51,.ldl (.t 3) (some 2),some (48,true)⟩,
 ⟨some 50,.call 10 [(.t 49)],some (48,true)⟩,
 ⟨some 52,.call 10 [(.t 51)],some (48,true)⟩,
 ⟨some 53,.call 9 [(.t 50),(.t 52)],some (48,true)⟩,
 Qo 54 (.pick (.t 48) (.t 53) (.c (.d (.bool false)))),
 Qm 55 54,
 ⟨some 56,.ldl (.t 1) (some 2),some (55,true)⟩,
 ⟨some 58,.ldl (.t 3) (some 2),some (55,true)⟩,
 ⟨some 57,.call 12 [(.t 56)],some (55,true)⟩,
 ⟨some 59,.call 12 [(.t 58)],some (55,true)⟩,
 ⟨some 60,.call 9 [(.t 57),(.t 59)],some (55,true)⟩,
 Qo 61 (.pick (.t 55) (.t 60) (.c (.d (.bool false)))),
 Qm 62 61,
 ⟨some 63,.call 14 [],some (62,true)⟩,
 Qo 64 (.pick (.t 62) (.t 63) (.c (.d (.bool false)))),
 Qm 2 64] [2])
 .ret)))))
def Pw:List (List Nat×PT):=[([1],.done),([1,19],.done),([2],.done),([1,3],.done),([1,3,23,24,25],.done),([1,3,23,24,25,26],.done),([1,3,5,23,24,25],.done),([1,3,5,6,23,24,25],.done),([1,3,23,24,25,41],.done),([2],.done),([1,3,23,24,25],.done),([2],(.one 0 (.one 1 (.one 2 (.one 3 (.one 4 (.one 5 (.one 7 (.one 6 (.one 8 (.one 9 (.one 10 (.one 11 (.one 12 (.one 14 (.one 13 (.one 15 (.one 16 (.one 17 (.one 18 (.one 19 (.one 20 (.one 21 .done)))))))))))))))))))))))]
noncomputable def EI:Cx:=⟨Tryz.prog,5,Tryz.f5,65,[300007,300011,300017,300020,300023,300030,300036,300044,300049,300051,300056,300058],[],[.t 2]⟩
theorem DI:Good EI:=⟨Tryz.func5,by kernel_rfl⟩
theorem Oz:EI.rs=[.t 2]:=rfl
theorem Pj (hl:args.length≤65) (h:Run EI K [.code Pc] (BK args) E σ):AK Tryz.prog 5 args σ K:=
 AX (cx:=EI) (code:=Tryz.f5.body.getD .skip) DI (by kernel_rfl) Tryz.ntmps5 hl (AY EI _ Pw _ [] (by kernel_rfl)) h
def QA:C:=(.seq (.reg [Qo 0 (.mv (.c (.d (.bool false))))] [])
 (.seq (.reg [Qo 2 (.bld [(.d (.int .i64 0)),(.d (.str [])),(.d (.int .i64 0)),.AU,.AU,.AU] [(0,1,(.c (.d (.int .i64 4)))),(1,1,(.c (.d (.str [103]))))]),
 Qo 3 (.bld [(.d (.str [])),.AU,(.d (.int .i64 0)),(.d (.str [])),(.d (.int .i64 0)),.AU,.AU,.AU] [(0,1,(.c (.d (.str [102])))),(2,6,(.t 2))]),
 Qo 4 (.bsl 8 1 [(.d (.str [])),.AU,(.d (.int .i64 0)),(.d (.str [])),(.d (.int .i64 0)),.AU,.AU,.AU] [(0,8,(.t 3))]),
 Qo 5 (.bld [.AU,.AU] [(1,1,(.t 4))]),
 Qo 1 (.al [.AU,.AU] false),
 ⟨none,.st (.t 1) (.t 5) 2,none⟩] [1])
 (.seq (.reg [Qo 6 (.ldl (.t 1) (some 2)),
 Qo 7 (.call 18 [(.t 6)]),
 Qo 8 (.bld [(.d (.int .i64 0)),(.d (.int .i64 0)),(.d (.int .i64 0))] [(0,1,(.c (.d (.int .i64 3))))]),
 Qo 9 (.aJ false 3 (.t 7) (.t 8)),
 Qm 0 9] [0])
 .ret)))
noncomputable def HH:Cx:=⟨Tryz.prog,14,Tryz.f14,10,[300006],[],[.t 0]⟩
theorem QP:Good HH:=⟨Tryz.func14,by kernel_rfl⟩
theorem Vn:HH.rs=[.t 0]:=rfl
theorem Wg (hl:args.length≤10) (h:Run HH K [.code QA] (BK args) E σ):AK Tryz.prog 14 args σ K:=
 AX (cx:=HH) (code:=Tryz.f14.body.getD .skip) QP (by kernel_rfl) Tryz.ntmps14 hl (AY HH _ (B0 QA) _ [] (by kernel_rfl)) h
def Wa:C:=(.seq (.seq (.reg [Qm 19 5,
 Qo 20 (.fld (.t 1) 1),
 Qo 21 (.ldl (.t 20) none),
 Qo 22 (.len (.t 21)),
 Qo 23 (.bin .lss (.t 19) (.t 22))] [1,2,3,5,23])
 (.cond (.t 23) .skip
 (.exit 0)))
 (.seq (.block 1 (.seq (.reg [Qo 26 (.fld (.t 1) 1),
 Qo 27 (.ldl (.t 26) none),
 Qm 28 5,
 Qo 29 (.ix (.t 27) (.t 28) 8),
 Qo 30 (.ld (.t 29) (some 8)),
 Qo 6 (.al [(.d (.str [])),.AU,(.d (.int .i64 0)),(.d (.str [])),(.d (.int .i64 0)),.AU,.AU,.AU] false),
 ⟨none,.st (.t 6) (.t 30) 8,none⟩] [1,2,3,5,6])
 (.seq (.reg [Qo 31 (.ldl (.t 1) (some 2)),
 Qm 32 3,
 Qo 33 (.bld [.AU,.AU,.AU,(.d (.int .i64 0)),.AU] [(0,2,(.t 31)),(2,1,(.t 32))]),
 Qo 34 (.box (.t 33) true),
 Qm 7 34] [1,2,3,5,6,7])
 (.seq (.seq (.reg [Qm 35 7,
 Qo 36 (.fld (.t 6) 0),
 Qo 37 (.ldl (.t 36) none),
 Qo 38 (.call 37 [(.t 35),(.t 37)]),
 Qm 39 5,
 Qo 40 (.bin .lss (.t 38) (.t 39)),
 Qm 41 40,
 ⟨some 42,.fld (.t 6) 1,some (41,false)⟩,
 ⟨some 43,.ldl (.t 42) none,some (41,false)⟩,
 ⟨some 44,.call 38 [(.t 43)],some (41,false)⟩,
 Qo 45 (.pick (.t 41) (.c (.d (.bool true))) (.t 44))] [1,2,3,5,6,7,45])
 (.cond (.t 45) (.seq (.reg [Qm 46 5,
 Qo 47 (.bld [(.d (.int .i64 0)),(.d (.int .i64 0)),(.d (.int .i64 0))] [(0,1,(.c (.d (.int .i64 4)))),(1,1,(.t 46))]),
 ⟨none,.st (.t 2) (.t 47) 3,none⟩] [2])
 .ret)
 .skip))
 (.seq (.reg [Qm 49 7,
 Qo 50 (.fld (.t 6) 2),
 Qo 51 (.ldl (.t 50) (some 6)),
 Qo 52 (.fld (.t 6) 1),
 Qo 53 (.ldl (.t 52) none),
 Qo 54 (.call 34 [(.t 49),(.t 51),(.t 53)]),
 Qm 48 54,
 Qo 55 (.ext (.t 48) 0),
 Qo 56 (.ext (.t 48) 1),
 Qm 8 55,
 Qm 9 56] [1,2,3,5,8,9])
 (.seq (.reg [Qm 57 8,
 Qo 58 (.bin .neq (.t 57) (.c (.d (.int .i64 0))))] [1,2,3,5,8,9,58])
 (.cond (.t 58) (.seq (.reg [Qm 59 8,
 Qm 60 5,
 Qm 61 9,
 Qo 62 (.bld [(.d (.int .i64 0)),(.d (.int .i64 0)),(.d (.int .i64 0))] [(0,1,(.t 59)),(1,1,(.t 60)),(2,1,(.t 61))]),
 ⟨none,.st (.t 2) (.t 62) 3,none⟩] [2])
 .ret)
 .skip)))))))
 (.reg [Qm 24 5,
 Qo 25 (.bin .add (.t 24) (.c (.d (.int .i64 1)))),
 Qm 5 25] [1,2,3,5])))
def Uu:C:=(.seq (.reg [Qo 1 (.box (.t 0) false),
 Qo 2 (.al [(.d (.int .i64 0)),(.d (.int .i64 0)),(.d (.int .i64 0))] false)] [1,2])
 (.seq (.reg [Qo 11 (.ldl (.t 1) (some 2)),
 Qo 12 (.call 23 [(.t 11)]),
 Qm 10 12,
 Qo 13 (.ext (.t 10) 0),
 Qo 14 (.ext (.t 10) 1),
 Qo 4 (.al [(.d (.int .i64 0)),(.d (.int .i64 0)),(.d (.int .i64 0))] false),
 Qm 3 13,
 ⟨none,.st (.t 4) (.t 14) 3,none⟩] [1,2,3,4])
 (.seq (.seq (.reg [Qo 15 (.fld (.t 4) 0),
 Qo 16 (.ldl (.t 15) none),
 Qo 17 (.bin .neq (.t 16) (.c (.d (.int .i64 0))))] [1,2,3,4,17])
 (.cond (.t 17) (.seq (.reg [Qo 18 (.ldl (.t 4) (some 3)),
 ⟨none,.st (.t 2) (.t 18) 3,none⟩] [2])
 .ret)
 .skip))
 (.seq (.seq (.reg [Qo 5 (.mv (.c (.d (.int .i64 0))))] [1,2,3,5])
 (.block 0 (.loop Wa)))
 (.seq (.reg [Qo 63 (.bld [(.d (.int .i64 0)),(.d (.int .i64 0)),(.d (.int .i64 0))] []),
 ⟨none,.st (.t 2) (.t 63) 3,none⟩] [2])
 .ret)))))
noncomputable def LF:Cx:=⟨Tryz.prog,15,Tryz.f15,64,[34,300011,300016,300018,300021,300027,300031,300037,300043,300051,300053],[],[.c 2 (some 3)]⟩
theorem Ig:Good LF:=⟨Tryz.func15,by kernel_rfl⟩
theorem aB:LF.rs=[.c 2 (some 3)]:=rfl
theorem cI (hl:args.length≤64) (h:Run LF K [.code Uu] (BK args) E σ):AK Tryz.prog 15 args σ K:=
 AX (cx:=LF) (code:=Tryz.f15.body.getD .skip) Ig (by kernel_rfl) Tryz.ntmps15 hl (AY LF _ (B0 Uu) _ [] (by kernel_rfl)) h
def RY:C:=(.seq (.seq (.reg [Qm 88 12,
 Qo 89 (.fld (.t 8) 2),
 Qo 90 (.ldl (.t 89) none),
 Qm 91 10,
 Qo 92 (.ix (.t 90) (.t 91) 2),
 Qo 93 (.fld (.t 92) 1),
 Qo 94 (.ld (.t 93) none),
 Qo 95 (.len (.t 94)),
 Qo 96 (.bin .lss (.t 88) (.t 95))] [1,3,4,5,6,7,8,9,10,11,12,96])
 (.cond (.t 96) .skip
 (.exit 4)))
 (.seq (.block 5 (.seq (.reg [Qo 13 (.al [(.d (.int .i64 0)),(.d (.int .i64 0)),.AU] false),
 Qo 100 (.ldl (.t 1) (some 2)),
 Qm 101 5,
 Qo 102 (.fld (.t 8) 1),
 Qo 103 (.ldl (.t 102) none),
 Qo 104 (.fld (.t 8) 2),
 Qo 105 (.ldl (.t 104) none),
 Qm 106 10,
 Qo 107 (.ix (.t 105) (.t 106) 2),
 Qo 108 (.fld (.t 107) 1),
 Qo 109 (.ld (.t 108) none),
 Qm 110 12,
 Qo 111 (.ix (.t 109) (.t 110) 3),
 Qo 112 (.ld (.t 111) (some 3)),
 Qo 113 (.call 60 [(.t 100),(.t 101),(.t 103),(.t 112),(.c (.d (.bool true)))]),
 Qm 99 113,
 Qo 114 (.ext (.t 99) 0),
 Qo 115 (.ext (.t 99) 1),
 ⟨none,.st (.t 13) (.t 114) 3,none⟩,
 Qm 14 115] [1,3,4,5,6,7,8,9,10,11,12,13,14])
 (.seq (.seq (.reg [Qm 116 14,
 Qo 117 (.bin .neq (.t 116) (.c (.d (.int .i64 0))))] [1,3,4,5,6,7,8,9,10,11,12,13,14,117])
 (.cond (.t 117) (.seq (.reg [Qm 118 14,
 Qm 119 7,
 Qo 120 (.bld [(.d (.int .i64 0)),(.d (.int .i64 0)),(.d (.int .i64 0))] [(0,1,(.t 118)),(1,1,(.c (.d (.int .i64 (-1))))),(2,1,(.t 119))]),
 Qo 2 (.mv (.c .AU)),
 ⟨none,.st (.t 3) (.t 120) 3,none⟩] [2,3])
 .ret)
 .skip))
 (.reg [Qo 121 (.fld (.t 11) 1),
 Qo 122 (.ldl (.t 121) none),
 Qo 123 (.ldl (.t 13) (some 3)),
 Qo 124 (.bsl 3 1 [(.d (.int .i64 0)),(.d (.int .i64 0)),.AU] [(0,3,(.t 123))]),
 Qo 125 (.app 57 3 40 (.t 122) (.t 124)),
 Qo 126 (.fld (.t 11) 1),
 ⟨none,.st (.t 126) (.t 125) 1,none⟩] [1,3,4,5,6,7,8,9,10,11,12]))))
 (.reg [Qm 97 12,
 Qo 98 (.bin .add (.t 97) (.c (.d (.int .i64 1)))),
 Qm 12 98] [1,3,4,5,6,7,8,9,10,11,12])))
def RZ:C:=(.seq (.seq (.reg [Qm 54 10,
 Qo 55 (.fld (.t 8) 2),
 Qo 56 (.ldl (.t 55) none),
 Qo 57 (.len (.t 56)),
 Qo 58 (.bin .lss (.t 54) (.t 57))] [1,3,4,5,6,7,8,9,10,58])
 (.cond (.t 58) .skip
 (.exit 2)))
 (.seq (.block 3 (.seq (.seq (.reg [Qm 61 6,
 Qo 62 (.fld (.t 8) 2),
 Qo 63 (.ldl (.t 62) none),
 Qm 64 10,
 Qo 65 (.ix (.t 63) (.t 64) 2),
 Qo 66 (.fld (.t 65) 0),
 Qo 67 (.ld (.t 66) none),
 Qo 68 (.call 59 [(.t 61),(.t 67)]),
 Qo 69 (.bin .geq (.t 68) (.c (.d (.int .i64 0))))] [1,3,4,5,6,7,8,9,10,69])
 (.cond (.t 69) (.seq (.reg [Qm 70 7,
 Qo 71 (.bld [(.d (.int .i64 0)),(.d (.int .i64 0)),(.d (.int .i64 0))] [(0,1,(.c (.d (.int .i64 4)))),(1,1,(.c (.d (.int .i64 (-1))))),(2,1,(.t 70))]),
 Qo 2 (.mv (.c .AU)),
 ⟨none,.st (.t 3) (.t 71) 3,none⟩] [2,3])
 .ret)
 .skip))
 (.seq (.reg [Qm 72 6,
 Qo 73 (.fld (.t 8) 2),
 Qo 74 (.ldl (.t 73) none),
 Qm 75 10,
 Qo 76 (.ix (.t 74) (.t 75) 2),
 Qo 77 (.fld (.t 76) 0),
 Qo 78 (.ld (.t 77) none),
 Qo 79 (.bsl 1 1 [(.d (.str []))] [(0,1,(.t 78))]),
 Qo 80 (.app 9 1 16 (.t 72) (.t 79)),
 Qm 6 80] [1,3,4,5,6,7,8,9,10])
 (.seq (.reg [Qo 81 (.fld (.t 8) 2),
 Qo 82 (.ldl (.t 81) none),
 Qm 83 10,
 Qo 84 (.ix (.t 82) (.t 83) 2),
 Qo 85 (.fld (.t 84) 0),
 Qo 86 (.ld (.t 85) none),
 Qo 87 (.bld [(.d (.str [])),.AU] [(0,1,(.t 86))]),
 Qo 11 (.al [(.d (.str [])),.AU] false),
 ⟨none,.st (.t 11) (.t 87) 2,none⟩] [1,3,4,5,6,7,8,9,10,11])
 (.seq (.seq (.reg [Qo 12 (.mv (.c (.d (.int .i64 0))))] [1,3,4,5,6,7,8,9,10,11,12])
 (.block 4 (.loop RY)))
 (.reg [Qo 127 (.fld (.t 9) 2),
 Qo 128 (.ldl (.t 127) none),
 Qo 129 (.ldl (.t 11) (some 2)),
 Qo 130 (.bsl 2 1 [(.d (.str [])),.AU] [(0,2,(.t 129))]),
 Qo 131 (.app 124 2 40 (.t 128) (.t 130)),
 Qo 132 (.fld (.t 9) 2),
 ⟨none,.st (.t 132) (.t 131) 1,none⟩] [1,3,4,5,6,7,8,9,10]))))))
 (.reg [Qm 59 10,
 Qo 60 (.bin .add (.t 59) (.c (.d (.int .i64 1)))),
 Qm 10 60] [1,3,4,5,6,7,8,9,10])))
def YB:C:=(.seq (.seq (.reg [Qm 19 7,
 Qo 20 (.fld (.t 1) 0),
 Qo 21 (.ldl (.t 20) none),
 Qo 22 (.len (.t 21)),
 Qo 23 (.bin .lss (.t 19) (.t 22))] [1,3,4,5,6,7,23])
 (.cond (.t 23) .skip
 (.exit 0)))
 (.seq (.block 1 (.seq (.reg [Qo 26 (.fld (.t 1) 0),
 Qo 27 (.ldl (.t 26) none),
 Qm 28 7,
 Qo 29 (.ix (.t 27) (.t 28) 3),
 Qo 30 (.ld (.t 29) (some 3)),
 Qo 8 (.al [(.d (.str [])),.AU,.AU] false),
 ⟨none,.st (.t 8) (.t 30) 3,none⟩] [1,3,4,5,6,7,8])
 (.seq (.seq (.reg [Qm 31 5,
 Qo 32 (.fld (.t 8) 0),
 Qo 33 (.ldl (.t 32) none),
 Qo 34 (.call 59 [(.t 31),(.t 33)]),
 Qo 35 (.bin .geq (.t 34) (.c (.d (.int .i64 0)))),
 Qm 36 35,
 ⟨some 37,.fld (.t 8) 1,some (36,false)⟩,
 ⟨some 38,.ldl (.t 37) none,some (36,false)⟩,
 ⟨some 39,.call 38 [(.t 38)],some (36,false)⟩,
 Qo 40 (.pick (.t 36) (.c (.d (.bool true))) (.t 39))] [1,3,4,5,6,7,8,40])
 (.cond (.t 40) (.seq (.reg [Qm 41 7,
 Qo 42 (.bld [(.d (.int .i64 0)),(.d (.int .i64 0)),(.d (.int .i64 0))] [(0,1,(.c (.d (.int .i64 4)))),(1,1,(.c (.d (.int .i64 (-1))))),(2,1,(.t 41))]),
 Qo 2 (.mv (.c .AU)),
 ⟨none,.st (.t 3) (.t 42) 3,none⟩] [2,3])
 .ret)
 .skip))
 (.seq (.reg [Qm 43 5,
 Qo 44 (.fld (.t 8) 0),
 Qo 45 (.ldl (.t 44) none),
 Qo 46 (.bsl 1 1 [(.d (.str []))] [(0,1,(.t 45))]),
 Qo 47 (.app 9 1 16 (.t 43) (.t 46)),
 Qm 5 47] [1,3,4,5,6,7,8])
 (.seq (.reg [Qo 48 (.fld (.t 8) 0),
 Qo 49 (.ldl (.t 48) none),
 Qo 50 (.fld (.t 8) 1),
 Qo 51 (.ldl (.t 50) none),
 Qo 52 (.len (.t 51)),
 Qo 53 (.bld [(.d (.str [])),(.d (.int .i64 0)),.AU] [(0,1,(.t 49)),(1,1,(.t 52))]),
 Qo 9 (.al [(.d (.str [])),(.d (.int .i64 0)),.AU] false),
 ⟨none,.st (.t 9) (.t 53) 3,none⟩] [1,3,4,5,6,7,8,9])
 (.seq (.seq (.reg [Qo 10 (.mv (.c (.d (.int .i64 0))))] [1,3,4,5,6,7,8,9,10])
 (.block 2 (.loop RZ)))
 (.reg [Qm 133 4,
 Qo 134 (.ldl (.t 9) (some 3)),
 Qo 135 (.bsl 3 1 [(.d (.str [])),(.d (.int .i64 0)),.AU] [(0,3,(.t 134))]),
 Qo 136 (.app 122 3 48 (.t 133) (.t 135)),
 Qm 4 136] [1,3,4,5,6,7])))))))
 (.reg [Qm 24 7,
 Qo 25 (.bin .add (.t 24) (.c (.d (.int .i64 1)))),
 Qm 7 25] [1,3,4,5,6,7])))
def fU:C:=(.seq (.reg [Qo 1 (.box (.t 0) false),
 Qo 2 (.mv (.c .AU)),
 Qo 3 (.al [(.d (.int .i64 0)),(.d (.int .i64 0)),(.d (.int .i64 0))] false)] [1,3])
 (.seq (.seq (.reg [Qo 15 (.ldl (.t 1) (some 2)),
 Qo 16 (.call 58 [(.t 15)]),
 Qo 17 (.un .not (.t 16))] [1,3,17])
 (.cond (.t 17) (.seq (.reg [Qo 18 (.bld [(.d (.int .i64 0)),(.d (.int .i64 0)),(.d (.int .i64 0))] [(0,1,(.c (.d (.int .i64 1)))),(1,1,(.c (.d (.int .i64 (-1)))))]),
 Qo 2 (.mv (.c .AU)),
 ⟨none,.st (.t 3) (.t 18) 3,none⟩] [2,3])
 .ret)
 .skip))
 (.seq (.reg [Qo 4 (.mv (.c .AU))] [1,3,4])
 (.seq (.reg [Qo 5 (.mv (.c .AU)),
 Qo 6 (.mv (.c .AU))] [1,3,4,5,6])
 (.seq (.seq (.reg [Qo 7 (.mv (.c (.d (.int .i64 0))))] [1,3,4,5,6,7])
 (.block 0 (.loop YB)))
 (.seq (.reg [Qm 137 4,
 Qo 138 (.bld [(.d (.int .i64 0)),(.d (.int .i64 0)),(.d (.int .i64 0))] []),
 Qm 2 137,
 ⟨none,.st (.t 3) (.t 138) 3,none⟩] [2,3])
 .ret))))))
def jB:List (List Nat×PT):=[([1,3],.done),([1,3,17],.done),([2,3],.done),([1,3,4],.done),([1,3,4,5,6],.done),([1,3,4,5,6,7],.done),([1,3,4,5,6,7,23],.done),([1,3,4,5,6,7,8],.done),([1,3,4,5,6,7,8,40],.done),([2,3],.done),([1,3,4,5,6,7,8],.done),([1,3,4,5,6,7,8,9],.done),([1,3,4,5,6,7,8,9,10],.done),([1,3,4,5,6,7,8,9,10,58],.done),([1,3,4,5,6,7,8,9,10,69],.done),([2,3],.done),([1,3,4,5,6,7,8,9,10],.done),([1,3,4,5,6,7,8,9,10,11],.done),([1,3,4,5,6,7,8,9,10,11,12],.done),([1,3,4,5,6,7,8,9,10,11,12,96],.done),([1,3,4,5,6,7,8,9,10,11,12,13,14],(.lay 17 (.one 0 (.one 1 (.one 2 (.one 3 (.one 4 (.one 5 (.one 6 (.one 7 (.one 8 (.one 9 (.one 10 (.one 11 (.one 12 (.one 13 (.one 14 (.one 15 (.one 16 (.one 18 (.one 19 .done))))))))))))))))))))),([1,3,4,5,6,7,8,9,10,11,12,13,14,117],.done),([2,3],.done),([1,3,4,5,6,7,8,9,10,11,12],.done),([1,3,4,5,6,7,8,9,10,11,12],.done),([1,3,4,5,6,7,8,9,10],.done),([1,3,4,5,6,7,8,9,10],.done),([1,3,4,5,6,7],.done),([1,3,4,5,6,7],.done),([2,3],.done)]
noncomputable def Dy:Cx:=⟨Tryz.prog,23,Tryz.f23,139,[300015,300021,300027,300033,300038,300045,300049,300051,300056,300063,300074,300082,300090,300100,300103,300105,300122,300123,300128,300129,300134],[],[.t 2,.c 3 (some 3)]⟩
theorem Ii:Good Dy:=⟨Tryz.func23,by kernel_rfl⟩
theorem dL:Dy.rs=[.t 2,.c 3 (some 3)]:=rfl
theorem gT (hl:args.length≤139) (h:Run Dy K [.code fU] (BK args) E σ):AK Tryz.prog 23 args σ K:=
 AX (cx:=Dy) (code:=Tryz.f23.body.getD .skip) Ii (by kernel_rfl) Tryz.ntmps23 hl (AY Dy _ jB _ [] (by kernel_rfl)) h
def JC:C:=(.seq (.seq (.reg [Qm 157 16,
 Qo 158 (.fld (.t 4) 4),
 Qo 159 (.ldl (.t 158) none),
 Qo 160 (.len (.t 159)),
 Qo 161 (.bin .lss (.t 157) (.t 160))] [0,2,4,16,161])
 (.cond (.t 161) .skip
 (.exit 1)))
 (.seq (.block 2 (.seq (.reg [Qm 164 2,
 Qm 17 164] [0,2,4,16,17])
 (.seq (.block 3 (.seq (.reg [Qo 166 (.fld (.t 4) 0),
 Qo 167 (.ldl (.t 166) none),
 Qo 168 (.bin .eql (.t 167) (.c (.d (.int .i64 7)))),
 Qm 169 168,
 ⟨some 170,.fld (.t 4) 0,some (169,false)⟩,
 ⟨some 171,.ldl (.t 170) none,some (169,false)⟩,
 ⟨some 172,.bin .eql (.t 171) (.c (.d (.int .i64 17))),some (169,false)⟩,
 Qo 173 (.pick (.t 169) (.c (.d (.bool true))) (.t 172)),
 Qm 174 173,
 ⟨some 175,.mv (.t 16),some (174,true)⟩,
 ⟨some 176,.bin .eql (.t 175) (.c (.d (.int .i64 1))),some (174,true)⟩,
 Qo 177 (.pick (.t 174) (.t 176) (.c (.d (.bool false)))),
 Qm 178 177,
 ⟨some 179,.fld (.t 4) 1,some (178,true)⟩,
 ⟨some 180,.ldl (.t 179) none,some (178,true)⟩,
 ⟨some 181,.bin .neq (.t 180) (.c (.d (.str []))),some (178,true)⟩,
 Qo 182 (.pick (.t 178) (.t 181) (.c (.d (.bool false)))),
 Qm 165 182] [0,2,4,16,17,165])
 (.cond (.t 165) (.reg [Qm 183 17,
 Qo 184 (.fld (.t 4) 1),
 Qo 185 (.ldl (.t 184) none),
 Qo 186 (.bsl 1 1 [(.d (.str []))] [(0,1,(.t 185))]),
 Qo 187 (.app 9 1 16 (.t 183) (.t 186)),
 Qm 17 187] [0,2,4,16,17])
 (.seq (.reg [Qo 189 (.fld (.t 4) 0),
 Qo 190 (.ldl (.t 189) none),
 Qo 191 (.bin .eql (.t 190) (.c (.d (.int .i64 8)))),
 Qm 192 191,
 ⟨some 193,.mv (.t 16),some (192,true)⟩,
 ⟨some 194,.bin .eql (.t 193) (.c (.d (.int .i64 1))),some (192,true)⟩,
 Qo 195 (.pick (.t 192) (.t 194) (.c (.d (.bool false)))),
 Qm 196 195,
 ⟨some 197,.fld (.t 4) 0,some (196,false)⟩,
 ⟨some 198,.ldl (.t 197) none,some (196,false)⟩,
 ⟨some 199,.bin .eql (.t 198) (.c (.d (.int .i64 11))),some (196,false)⟩,
 Qo 200 (.pick (.t 196) (.c (.d (.bool true))) (.t 199)),
 Qm 188 200] [0,2,4,16,17,188])
 (.cond (.t 188) (.reg [Qm 201 17,
 Qo 202 (.fld (.t 4) 3),
 Qo 203 (.ldl (.t 202) none),
 Qo 204 (.app 9 1 16 (.t 201) (.t 203)),
 Qm 17 204] [0,2,4,16,17])
 .skip)))))
 (.seq (.reg [Qm 206 0,
 Qo 207 (.fld (.t 4) 4),
 Qo 208 (.ldl (.t 207) none),
 Qm 209 16,
 Qo 210 (.ix (.t 208) (.t 209) 6),
 Qo 211 (.ld (.t 210) (some 6)),
 Qm 212 17,
 Qo 213 (.call 34 [(.t 206),(.t 211),(.t 212)]),
 Qm 205 213,
 Qo 214 (.ext (.t 205) 0),
 Qo 215 (.ext (.t 205) 1),
 Qm 18 214,
 Qm 19 215] [0,2,4,16,18,19])
 (.seq (.reg [Qm 216 18,
 Qo 217 (.bin .neq (.t 216) (.c (.d (.int .i64 0))))] [0,2,4,16,18,19,217])
 (.cond (.t 217) (.seq (.reg [Qm 218 18,
 Qm 219 19,
 Qm 6 218,
 Qm 7 219] [6,7])
 .ret)
 .skip))))))
 (.reg [Qm 162 16,
 Qo 163 (.bin .add (.t 162) (.c (.d (.int .i64 1)))),
 Qm 16 163] [0,2,4,16])))
def JD:C:=(.seq (.seq (.reg [Qm 220 20,
 Qo 221 (.fld (.t 4) 5),
 Qo 222 (.ldl (.t 221) none),
 Qo 223 (.len (.t 222)),
 Qo 224 (.bin .lss (.t 220) (.t 223))] [0,2,4,20,224])
 (.cond (.t 224) .skip
 (.exit 4)))
 (.seq (.block 5 (.seq (.Sm (.one (Qm 228 0)
 (.one (Qo 229 (.fld (.t 4) 5))
 (.one (Qo 230 (.ldl (.t 229) none))
 (.one (Qm 231 20)
 (.one (Qo 232 (.ix (.t 230) (.t 231) 8))
 (.one (Qo 233 (.fld (.t 232) 2))
 (.one (Qm 235 2)
 (.one (Qo 236 (.fld (.t 4) 5))
 (.one (Qo 237 (.ldl (.t 236) none))
 (.one (Qm 238 20)
 (.one (Qo 239 (.ix (.t 237) (.t 238) 8))
 (.one (Qo 240 (.fld (.t 239) 1))
 (.one (Qo 241 (.ld (.t 240) none))
 (.alt (Qo 234 (.ld (.t 233) (some 6)))
 (.one (Qo 242 (.app 9 1 16 (.t 235) (.t 241)))
 (.one (Qo 243 (.call 34 [(.t 228),(.t 234),(.t 242)]))
 (.one (Qm 227 243)
 (.one (Qo 244 (.ext (.t 227) 0))
 (.one (Qo 245 (.ext (.t 227) 1))
 (.one (Qm 21 244)
 (.one (Qm 22 245)
 .done)))))))
 (.alt (Qo 242 (.app 9 1 16 (.t 235) (.t 241)))
 (.one (Qo 234 (.ld (.t 233) (some 6)))
 (.one (Qo 243 (.call 34 [(.t 228),(.t 234),(.t 242)]))
 (.one (Qm 227 243)
 (.one (Qo 244 (.ext (.t 227) 0))
 (.one (Qo 245 (.ext (.t 227) 1))
 (.one (Qm 21 244)
 (.one (Qm 22 245)
 .done)))))))
 .done))))))))))))))) [0,2,4,20,21,22])
 (.seq (.reg [Qm 246 21,
 Qo 247 (.bin .neq (.t 246) (.c (.d (.int .i64 0))))] [0,2,4,20,21,22,247])
 (.cond (.t 247) (.seq (.reg [Qm 248 21,
 Qm 249 22,
 Qm 6 248,
 Qm 7 249] [6,7])
 .ret)
 .skip))))
 (.reg [Qm 225 20,
 Qo 226 (.bin .add (.t 225) (.c (.d (.int .i64 1)))),
 Qm 20 226] [0,2,4,20])))
def R0:C:=(.seq (.reg [Qo 4 (.box (.t 1) false),
 Qo 6 (.mv (.c (.d (.int .i64 0)))),
 Qo 7 (.mv (.c (.d (.int .i64 0))))] [0,2,4])
 (.seq (.reg [Qm 23 0,
 Qo 24 (.nck (.t 23)),
 Qo 25 (.fld (.t 24) 3),
 Qo 26 (.ld (.t 25) none),
 Qm 8 26] [0,2,4,8])
 (.seq (.reg [Qm 27 0,
 Qo 28 (.nck (.t 27)),
 Qo 29 (.fld (.t 28) 3),
 Qo 30 (.ld (.t 29) none),
 Qo 31 (.bin .add (.t 30) (.c (.d (.int .i64 1)))),
 Qo 32 (.nck (.t 27)),
 Qo 33 (.fld (.t 32) 3),
 ⟨none,.st (.t 33) (.t 31) 1,none⟩] [0,2,4,8])
 (.seq (.reg [Qm 34 2,
 Qm 35 2,
 Qo 36 (.len (.t 35)),
 Qm 37 2,
 Qo 38 (.len (.t 37)),
 Qo 39 (.sls (.t 34) none (some (.t 36)) (some (.t 38)) 1),
 Qm 2 39] [0,2,4,8])
 (.seq (.seq (.reg [Qo 40 (.fld (.t 4) 0),
 Qo 41 (.ldl (.t 40) none)] [0,2,4,8,41])
 (.block 0 (.seq (.reg [Qo 43 (.bin .eql (.t 41) (.c (.d (.int .i64 4)))),
 Qm 42 43] [0,2,4,8,41,42])
 (.cond (.t 42) (.seq (.reg [Qm 44 2,
 Qo 45 (.fld (.t 4) 1),
 Qo 46 (.ldl (.t 45) none),
 Qo 47 (.call 59 [(.t 44),(.t 46)]),
 Qo 48 (.bin .lss (.t 47) (.c (.d (.int .i64 0))))] [0,2,4,8,48])
 (.cond (.t 48) (.seq (.reg [Qm 49 0,
 Qo 50 (.fld (.t 4) 1),
 Qo 51 (.ldl (.t 50) none),
 Qo 52 (.call 37 [(.t 49),(.t 51)]),
 Qm 9 52] [0,2,4,8,9])
 (.seq (.seq (.reg [Qm 53 9,
 Qo 54 (.bin .lss (.t 53) (.c (.d (.int .i64 0))))] [0,2,4,8,9,54])
 (.cond (.t 54) (.seq (.reg [Qm 55 8,
 Qo 6 (.mv (.c (.d (.int .i64 3)))),
 Qm 7 55] [6,7])
 .ret)
 .skip))
 (.reg [Qm 56 0,
 Qm 57 0,
 Qo 58 (.nck (.t 57)),
 Qo 59 (.fld (.t 58) 4),
 Qo 60 (.ld (.t 59) none),
 Qm 61 9,
 Qo 62 (.bsl 1 1 [(.d (.int .i64 0))] [(0,1,(.t 61))]),
 Qo 63 (.app 3 1 8 (.t 60) (.t 62)),
 Qo 64 (.nck (.t 56)),
 Qo 65 (.fld (.t 64) 4),
 ⟨none,.st (.t 65) (.t 63) 1,none⟩] [0,2,4])))
 .skip))
 (.seq (.reg [Qo 67 (.bin .eql (.t 41) (.c (.d (.int .i64 6)))),
 Qm 66 67] [0,2,4,8,41,66])
 (.cond (.t 66) (.seq (.reg [Qm 69 0,
 Qo 70 (.nck (.t 69)),
 Qo 71 (.fld (.t 70) 2),
 Qo 72 (.ld (.t 71) none),
 Qo 73 (.fld (.t 4) 1),
 Qo 74 (.ldl (.t 73) none),
 Qo 75 (.call 67 [(.t 72),(.t 74)]),
 Qm 68 75,
 Qo 76 (.ext (.t 68) 0),
 Qo 77 (.ext (.t 68) 1),
 Qo 78 (.ext (.t 68) 2),
 Qm 10 76,
 Qm 11 77,
 Qm 12 78] [0,2,4,8,10,11,12])
 (.seq (.seq (.reg [Qm 79 12,
 Qo 80 (.un .not (.t 79))] [0,2,4,8,10,11,80])
 (.cond (.t 80) (.seq (.reg [Qm 81 8,
 Qo 6 (.mv (.c (.d (.int .i64 3)))),
 Qm 7 81] [6,7])
 .ret)
 .skip))
 (.seq (.reg [Qo 82 (.fld (.t 4) 4),
 Qo 83 (.ldl (.t 82) none),
 Qo 84 (.len (.t 83)),
 Qm 85 0,
 Qo 86 (.nck (.t 85)),
 Qo 87 (.fld (.t 86) 2),
 Qo 88 (.ld (.t 87) none),
 Qm 89 10,
 Qo 90 (.ix (.t 88) (.t 89) 3),
 Qo 91 (.fld (.t 90) 2),
 Qo 92 (.ld (.t 91) none),
 Qm 93 11,
 Qo 94 (.ix (.t 92) (.t 93) 2),
 Qo 95 (.fld (.t 94) 1),
 Qo 96 (.ld (.t 95) none),
 Qo 97 (.len (.t 96)),
 Qo 98 (.bin .neq (.t 84) (.t 97))] [0,2,4,8,98])
 (.cond (.t 98) (.seq (.reg [Qm 99 8,
 Qo 6 (.mv (.c (.d (.int .i64 5)))),
 Qm 7 99] [6,7])
 .ret)
 .skip))))
 (.seq (.seq (.reg [Qo 101 (.bin .eql (.t 41) (.c (.d (.int .i64 8)))),
 Qm 100 101] [0,2,4,8,41,100])
 (.cond (.t 100) .skip
 (.reg [Qo 102 (.bin .eql (.t 41) (.c (.d (.int .i64 11)))),
 Qm 100 102] [0,2,4,8,41,100])))
 (.cond (.t 100) (.seq (.reg [Qo 103 (.fld (.t 4) 3),
 Qo 104 (.ldl (.t 103) none),
 Qo 105 (.call 38 [(.t 104)])] [0,2,4,8,105])
 (.cond (.t 105) (.seq (.reg [Qm 106 8,
 Qo 6 (.mv (.c (.d (.int .i64 4)))),
 Qm 7 106] [6,7])
 .ret)
 .skip))
 (.seq (.reg [Qo 108 (.bin .eql (.t 41) (.c (.d (.int .i64 10)))),
 Qm 107 108] [0,2,4,8,41,107])
 (.cond (.t 107) (.seq (.reg [Qm 109 0,
 Qo 110 (.fld (.t 4) 5),
 Qo 111 (.ldl (.t 110) none),
 Qo 112 (.call 68 [(.t 109),(.t 111)]),
 Qm 13 112] [0,2,4,8,13])
 (.seq (.reg [Qm 113 13,
 Qo 114 (.bin .neq (.t 113) (.c (.d (.int .i64 0))))] [0,2,4,8,13,114])
 (.cond (.t 114) (.seq (.reg [Qm 115 13,
 Qm 116 8,
 Qm 6 115,
 Qm 7 116] [6,7])
 .ret)
 .skip)))
 (.seq (.reg [Qo 118 (.bin .eql (.t 41) (.c (.d (.int .i64 12)))),
 Qm 117 118] [0,2,4,8,117])
 (.cond (.t 117) (.seq (.reg [Qo 119 (.fld (.t 4) 4),
 Qo 120 (.ldl (.t 119) none),
 Qo 121 (.ix (.t 120) (.c (.d (.int .i64 0))) 6),
 Qo 122 (.ld (.t 121) (some 6)),
 Qo 14 (.al [(.d (.int .i64 0)),(.d (.str [])),(.d (.int .i64 0)),.AU,.AU,.AU] false),
 ⟨none,.st (.t 14) (.t 122) 6,none⟩] [0,2,4,8,14])
 (.seq (.reg [Qo 123 (.fld (.t 14) 0),
 Qo 124 (.ldl (.t 123) none),
 Qo 125 (.bin .eql (.t 124) (.c (.d (.int .i64 4)))),
 Qm 126 125,
 ⟨some 127,.mv (.t 2),some (126,true)⟩,
 ⟨some 128,.fld (.t 14) 1,some (126,true)⟩,
 ⟨some 129,.ldl (.t 128) none,some (126,true)⟩,
 ⟨some 130,.call 59 [(.t 127),(.t 129)],some (126,true)⟩,
 ⟨some 131,.bin .lss (.t 130) (.c (.d (.int .i64 0))),some (126,true)⟩,
 Qo 132 (.pick (.t 126) (.t 131) (.c (.d (.bool false))))] [0,2,4,8,14,132])
 (.cond (.t 132) (.seq (.reg [Qm 133 0,
 Qo 134 (.fld (.t 14) 1),
 Qo 135 (.ldl (.t 134) none),
 Qo 136 (.call 37 [(.t 133),(.t 135)]),
 Qm 15 136] [0,2,4,8,15])
 (.seq (.reg [Qm 137 15,
 Qo 138 (.bin .geq (.t 137) (.c (.d (.int .i64 0)))),
 Qm 139 138,
 ⟨some 140,.mv (.t 0),some (139,true)⟩,
 ⟨some 141,.nck (.t 140),some (139,true)⟩,
 ⟨some 142,.fld (.t 141) 0,some (139,true)⟩,
 ⟨some 143,.fld (.t 142) 1,some (139,true)⟩,
 ⟨some 144,.ld (.t 143) none,some (139,true)⟩,
 ⟨some 145,.mv (.t 15),some (139,true)⟩,
 ⟨some 146,.ix (.t 144) (.t 145) 8,some (139,true)⟩,
 ⟨some 147,.fld (.t 146) 1,some (139,true)⟩,
 ⟨some 148,.ld (.t 147) none,some (139,true)⟩,
 ⟨some 149,.len (.t 148),some (139,true)⟩,
 ⟨some 150,.fld (.t 4) 4,some (139,true)⟩,
 ⟨some 151,.ldl (.t 150) none,some (139,true)⟩,
 ⟨some 152,.len (.t 151),some (139,true)⟩,
 ⟨some 153,.bin .sub (.t 152) (.c (.d (.int .i64 1))),some (139,true)⟩,
 ⟨some 154,.bin .neq (.t 149) (.t 153),some (139,true)⟩,
 Qo 155 (.pick (.t 139) (.t 154) (.c (.d (.bool false))))] [0,2,4,8,155])
 (.cond (.t 155) (.seq (.reg [Qm 156 8,
 Qo 6 (.mv (.c (.d (.int .i64 5)))),
 Qm 7 156] [6,7])
 .ret)
 .skip)))
 .skip)))
 .skip))))))))))))
 (.seq (.seq (.reg [Qo 16 (.mv (.c (.d (.int .i64 0))))] [0,2,4,16])
 (.block 1 (.loop JC)))
 (.seq (.seq (.reg [Qo 20 (.mv (.c (.d (.int .i64 0))))] [0,2,4,20])
 (.block 4 (.loop JD)))
 (.seq (.reg [Qo 6 (.mv (.c (.d (.int .i64 0)))),
 Qo 7 (.mv (.c (.d (.int .i64 0))))] [6,7])
 .ret))))))))
def Rz:List (List Nat×PT):=[([0,2,4],.done),([0,2,4,8],.done),([0,2,4,8],.done),([0,2,4,8],.done),([0,2,4,8,41],.done),([0,2,4,8,41,42],.done),([0,2,4,8,48],.done),([0,2,4,8,9],.done),([0,2,4,8,9,54],.done),([6,7],.done),([0,2,4],.done),([0,2,4,8,41,66],.done),([0,2,4,8,10,11,12],.done),([0,2,4,8,10,11,80],.done),([6,7],.done),([0,2,4,8,98],.done),([6,7],.done),([0,2,4,8,41,100],.done),([0,2,4,8,41,100],.done),([0,2,4,8,105],.done),([6,7],.done),([0,2,4,8,41,107],.done),([0,2,4,8,13],.done),([0,2,4,8,13,114],.done),([6,7],.done),([0,2,4,8,117],.done),([0,2,4,8,14],.done),([0,2,4,8,14,132],.done),([0,2,4,8,15],.done),([0,2,4,8,155],.done),([6,7],.done),([0,2,4,16],.done),([0,2,4,16,161],.done),([0,2,4,16,17],.done),([0,2,4,16,17,165],.done),([0,2,4,16,17],.done),([0,2,4,16,17,188],.done),([0,2,4,16,17],.done),([0,2,4,16,18,19],.done),([0,2,4,16,18,19,217],.done),([6,7],.done),([0,2,4,16],.done),([0,2,4,20],.done),([0,2,4,20,224],.done),([0,2,4,20,21,22],(.one 0 (.one 1 (.one 2 (.one 3 (.one 4 (.one 5 (.one 7 (.one 8 (.one 9 (.one 10 (.one 11 (.one 12 (.one 13 (.alt 6 (.one 14 (.one 15 (.one 16 (.one 17 (.one 18 (.one 19 (.one 20 .done))))))) (.alt 14 (.one 6 (.one 15 (.one 16 (.one 17 (.one 18 (.one 19 (.one 20 .done))))))) .done)))))))))))))))),([0,2,4,20,21,22,247],.done),([6,7],.done),([0,2,4,20],.done),([6,7],.done)]
noncomputable def Dz:Cx:=⟨Tryz.prog,34,Tryz.f34,250,[300041,300046,300051,300074,300083,300104,300111,300120,300124,300129,300135,300151,300159,300167,300171,300180,300185,300190,300198,300203,300208,300222,300230,300237],[],[.t 6,.t 7]⟩
theorem Ar:Good Dz:=⟨Tryz.func34,by kernel_rfl⟩
theorem Qv:Dz.rs=[.t 6,.t 7]:=rfl
theorem Rh (hl:args.length≤250) (h:Run Dz K [.code R0] (BK args) E σ):AK Tryz.prog 34 args σ K:=
 AX (cx:=Dz) (code:=Tryz.f34.body.getD .skip) Ar (by kernel_rfl) Tryz.ntmps34 hl (AY Dz _ Rz _ [] (by kernel_rfl)) h
def MJ:C:=(.seq (.seq (.reg [Qm 6 5,
 Qm 7 0,
 Qo 8 (.nck (.t 7)),
 Qo 9 (.fld (.t 8) 0),
 Qo 10 (.fld (.t 9) 1),
 Qo 11 (.ld (.t 10) none),
 Qo 12 (.len (.t 11)),
 Qo 13 (.bin .lss (.t 6) (.t 12))] [0,1,5,13])
 (.cond (.t 13) .skip
 (.exit 0)))
 (.seq (.block 1 (.seq (.reg [Qm 16 0,
 Qo 17 (.nck (.t 16)),
 Qo 18 (.fld (.t 17) 0),
 Qo 19 (.fld (.t 18) 1),
 Qo 20 (.ld (.t 19) none),
 Qm 21 5,
 Qo 22 (.ix (.t 20) (.t 21) 8),
 Qo 23 (.fld (.t 22) 0),
 Qo 24 (.ld (.t 23) none),
 Qm 25 1,
 Qo 26 (.bin .eql (.t 24) (.t 25))] [0,1,5,26])
 (.cond (.t 26) (.seq (.reg [Qm 27 5,
 Qm 4 27] [4])
 .ret)
 .skip)))
 (.reg [Qm 14 5,
 Qo 15 (.bin .add (.t 14) (.c (.d (.int .i64 1)))),
 Qm 5 15] [0,1,5])))
def JE:C:=(.seq (.reg [Qo 4 (.mv (.c (.d (.int .i64 0))))] [0,1])
 (.seq (.seq (.reg [Qo 5 (.mv (.c (.d (.int .i64 0))))] [0,1,5])
 (.block 0 (.loop MJ)))
 (.seq (.reg [Qo 4 (.mv (.c (.d (.int .i64 (-1)))))] [4])
 .ret)))
noncomputable def Dn:Cx:=⟨Tryz.prog,37,Tryz.f37,28,[],[],[.t 4]⟩
theorem GX:Good Dn:=⟨Tryz.func37,by kernel_rfl⟩
theorem OD:Dn.rs=[.t 4]:=rfl
theorem Og (hl:args.length≤28) (h:Run Dn K [.code JE] (BK args) E σ):AK Tryz.prog 37 args σ K:=
 AX (cx:=Dn) (code:=Tryz.f37.body.getD .skip) GX (by kernel_rfl) Tryz.ntmps37 hl (AY Dn _ (B0 JE) _ [] (by kernel_rfl)) h
def Wb:C:=(.seq (.seq (.reg [Qm 11 4,
 Qm 12 3,
 Qo 13 (.bin .lss (.t 11) (.t 12))] [0,3,4,13])
 (.cond (.t 13) .skip
 (.exit 2)))
 (.seq (.block 3 (.seq (.reg [Qm 16 0,
 Qm 17 3,
 Qo 18 (.ix (.t 16) (.t 17) 1),
 Qo 19 (.ld (.t 18) none),
 Qm 20 0,
 Qm 21 4,
 Qo 22 (.ix (.t 20) (.t 21) 1),
 Qo 23 (.ld (.t 22) none),
 Qo 24 (.bin .eql (.t 19) (.t 23)),
 Qm 25 24,
 ⟨some 26,.mv (.t 0),some (25,true)⟩,
 ⟨some 27,.mv (.t 3),some (25,true)⟩,
 ⟨some 28,.ix (.t 26) (.t 27) 1,some (25,true)⟩,
 ⟨some 29,.ld (.t 28) none,some (25,true)⟩,
 ⟨some 30,.bin .neq (.t 29) (.c (.d (.str []))),some (25,true)⟩,
 Qo 31 (.pick (.t 25) (.t 30) (.c (.d (.bool false))))] [0,3,4,31])
 (.cond (.t 31) (.seq (.reg [Qo 2 (.mv (.c (.d (.bool true))))] [2])
 .ret)
 .skip)))
 (.reg [Qm 14 4,
 Qo 15 (.bin .add (.t 14) (.c (.d (.int .i64 1)))),
 Qm 4 15] [0,3,4])))
def Wc:C:=(.seq (.seq (.reg [Qm 5 3,
 Qm 6 0,
 Qo 7 (.len (.t 6)),
 Qo 8 (.bin .lss (.t 5) (.t 7))] [0,3,8])
 (.cond (.t 8) .skip
 (.exit 0)))
 (.seq (.block 1 (.seq (.reg [Qo 4 (.mv (.c (.d (.int .i64 0))))] [0,3,4])
 (.block 2 (.loop Wb))))
 (.reg [Qm 9 3,
 Qo 10 (.bin .add (.t 9) (.c (.d (.int .i64 1)))),
 Qm 3 10] [0,3])))
def Uv:C:=(.seq (.reg [Qo 2 (.mv (.c (.d (.bool false))))] [0])
 (.seq (.seq (.reg [Qo 3 (.mv (.c (.d (.int .i64 0))))] [0,3])
 (.block 0 (.loop Wc)))
 (.seq (.reg [Qo 2 (.mv (.c (.d (.bool false))))] [2])
 .ret)))
noncomputable def LG:Cx:=⟨Tryz.prog,38,Tryz.f38,32,[],[],[.t 2]⟩
theorem Qh:Good LG:=⟨Tryz.func38,by kernel_rfl⟩
theorem aC:LG.rs=[.t 2]:=rfl
theorem cJ (hl:args.length≤32) (h:Run LG K [.code Uv] (BK args) E σ):AK Tryz.prog 38 args σ K:=
 AX (cx:=LG) (code:=Tryz.f38.body.getD .skip) Qh (by kernel_rfl) Tryz.ntmps38 hl (AY LG _ (B0 Uv) _ [] (by kernel_rfl)) h
def YC:C:=(.seq (.seq (.reg [Qm 6 5,
 Qm 7 0,
 Qo 8 (.len (.t 7)),
 Qo 9 (.bin .lss (.t 6) (.t 8))] [0,1,5,9])
 (.cond (.t 9) .skip
 (.exit 0)))
 (.seq (.block 1 (.seq (.reg [Qm 12 0,
 Qm 13 5,
 Qo 14 (.ix (.t 12) (.t 13) 1),
 Qo 15 (.ld (.t 14) none),
 Qm 16 1,
 Qo 17 (.bin .eql (.t 15) (.t 16))] [0,1,5,17])
 (.cond (.t 17) (.seq (.reg [Qm 18 5,
 Qm 4 18] [4])
 .ret)
 .skip)))
 (.reg [Qm 10 5,
 Qo 11 (.bin .add (.t 10) (.c (.d (.int .i64 1)))),
 Qm 5 11] [0,1,5])))
def XP:C:=(.seq (.reg [Qo 4 (.mv (.c (.d (.int .i64 0))))] [0,1])
 (.seq (.seq (.reg [Qo 5 (.mv (.c (.d (.int .i64 0))))] [0,1,5])
 (.block 0 (.loop YC)))
 (.seq (.reg [Qo 4 (.mv (.c (.d (.int .i64 (-1)))))] [4])
 .ret)))
noncomputable def Ml:Cx:=⟨Tryz.prog,59,Tryz.f59,19,[],[],[.t 4]⟩
theorem SY:Good Ml:=⟨Tryz.func59,by kernel_rfl⟩
theorem dM:Ml.rs=[.t 4]:=rfl
theorem gU (hl:args.length≤19) (h:Run Ml K [.code XP] (BK args) E σ):AK Tryz.prog 59 args σ K:=
 AX (cx:=Ml) (code:=Tryz.f59.body.getD .skip) SY (by kernel_rfl) Tryz.ntmps59 hl (AY Ml _ (B0 XP) _ [] (by kernel_rfl)) h
def Td:C:=(.seq (.seq (.reg [Qm 63 13,
 Qo 64 (.fld (.t 8) 2),
 Qo 65 (.ldl (.t 64) none),
 Qo 66 (.len (.t 65)),
 Qo 67 (.bin .lss (.t 63) (.t 66))] [1,2,4,5,8,10,12,13,67])
 (.cond (.t 67) .skip
 (.exit 1)))
 (.seq (.block 2 (.seq (.reg [Qo 70 (.fld (.t 8) 2),
 Qo 71 (.ldl (.t 70) none),
 Qm 72 13,
 Qo 73 (.ix (.t 71) (.t 72) 3),
 Qo 74 (.fld (.t 73) 0),
 Qo 75 (.ld (.t 74) none),
 Qo 76 (.bin .neq (.t 75) (.c (.d (.int .i64 4)))),
 Qm 77 76,
 ⟨some 78,.fld (.t 8) 2,some (77,false)⟩,
 ⟨some 79,.ldl (.t 78) none,some (77,false)⟩,
 ⟨some 80,.mv (.t 13),some (77,false)⟩,
 ⟨some 81,.ix (.t 79) (.t 80) 3,some (77,false)⟩,
 ⟨some 82,.fld (.t 81) 1,some (77,false)⟩,
 ⟨some 83,.ld (.t 82) none,some (77,false)⟩,
 ⟨some 84,.mv (.t 2),some (77,false)⟩,
 ⟨some 85,.mv (.t 13),some (77,false)⟩,
 ⟨some 86,.ix (.t 84) (.t 85) 1,some (77,false)⟩,
 ⟨some 87,.ld (.t 86) none,some (77,false)⟩,
 ⟨some 88,.bin .neq (.t 83) (.t 87),some (77,false)⟩,
 Qo 89 (.pick (.t 77) (.c (.d (.bool true))) (.t 88))] [1,2,4,5,8,10,12,13,89])
 (.cond (.t 89) (.seq (.reg [Qo 90 (.bld [(.d (.int .i64 0)),(.d (.int .i64 0)),.AU] []),
 ⟨none,.st (.t 10) (.t 90) 3,none⟩,
 Qo 11 (.mv (.c (.d (.int .i64 7))))] [10,11])
 .ret)
 .skip)))
 (.reg [Qm 68 13,
 Qo 69 (.bin .add (.t 68) (.c (.d (.int .i64 1)))),
 Qm 13 69] [1,2,4,5,8,10,12,13])))
def Ng:C:=(.seq (.seq (.reg [Qm 94 14,
 Qo 95 (.fld (.t 8) 2),
 Qo 96 (.ldl (.t 95) none),
 Qo 97 (.len (.t 96)),
 Qo 98 (.bin .lss (.t 94) (.t 97))] [1,2,5,8,10,12,14,98])
 (.cond (.t 98) .skip
 (.exit 3)))
 (.seq (.block 4 (.seq (.reg [Qo 15 (.al [(.d (.int .i64 0)),(.d (.int .i64 0)),.AU] false),
 Qo 102 (.ldl (.t 5) (some 2)),
 Qm 103 1,
 Qm 104 2,
 Qo 105 (.fld (.t 8) 2),
 Qo 106 (.ldl (.t 105) none),
 Qm 107 14,
 Qo 108 (.ix (.t 106) (.t 107) 3),
 Qo 109 (.ld (.t 108) (some 3)),
 Qo 110 (.call 60 [(.t 102),(.t 103),(.t 104),(.t 109),(.c (.d (.bool false)))]),
 Qm 101 110,
 Qo 111 (.ext (.t 101) 0),
 Qo 112 (.ext (.t 101) 1),
 ⟨none,.st (.t 15) (.t 111) 3,none⟩,
 Qm 16 112] [1,2,5,8,10,12,14,15,16])
 (.seq (.seq (.reg [Qm 113 16,
 Qo 114 (.bin .neq (.t 113) (.c (.d (.int .i64 0))))] [1,2,5,8,10,12,14,15,16,114])
 (.cond (.t 114) (.seq (.reg [Qo 115 (.bld [(.d (.int .i64 0)),(.d (.int .i64 0)),.AU] []),
 Qm 116 16,
 ⟨none,.st (.t 10) (.t 115) 3,none⟩,
 Qm 11 116] [10,11])
 .ret)
 .skip))
 (.reg [Qo 117 (.fld (.t 12) 2),
 Qo 118 (.ldl (.t 117) none),
 Qo 119 (.ldl (.t 15) (some 3)),
 Qo 120 (.bsl 3 1 [(.d (.int .i64 0)),(.d (.int .i64 0)),.AU] [(0,3,(.t 119))]),
 Qo 121 (.app 57 3 40 (.t 118) (.t 120)),
 Qo 122 (.fld (.t 12) 2),
 ⟨none,.st (.t 122) (.t 121) 1,none⟩] [1,2,5,8,10,12,14]))))
 (.reg [Qm 99 14,
 Qo 100 (.bin .add (.t 99) (.c (.d (.int .i64 1)))),
 Qm 14 100] [1,2,5,8,10,12,14])))
def YD:C:=(.seq (.reg [Qo 5 (.box (.t 0) false),
 Qo 8 (.box (.t 3) false),
 Qo 10 (.al [(.d (.int .i64 0)),(.d (.int .i64 0)),.AU] false),
 Qo 11 (.mv (.c (.d (.int .i64 0))))] [1,2,4,5,8,10])
 (.seq (.reg [Qo 17 (.fld (.t 8) 0),
 Qo 18 (.ldl (.t 17) none),
 Qo 19 (.bld [(.d (.int .i64 0)),(.d (.int .i64 0)),.AU] [(0,1,(.t 18))]),
 Qo 12 (.al [(.d (.int .i64 0)),(.d (.int .i64 0)),.AU] false),
 ⟨none,.st (.t 12) (.t 19) 3,none⟩] [1,2,4,5,8,10,12])
 (.seq (.seq (.reg [Qo 20 (.fld (.t 8) 0),
 Qo 21 (.ldl (.t 20) none)] [1,2,4,5,8,10,12,21])
 (.block 0 (.seq (.reg [Qo 23 (.bin .eql (.t 21) (.c (.d (.int .i64 4)))),
 Qm 22 23] [1,2,4,5,8,10,12,21,22])
 (.cond (.t 22) (.seq (.reg [Qm 24 2,
 Qo 25 (.fld (.t 8) 1),
 Qo 26 (.ldl (.t 25) none),
 Qo 27 (.call 59 [(.t 24),(.t 26)]),
 Qo 28 (.fld (.t 12) 1),
 ⟨none,.st (.t 28) (.t 27) 1,none⟩] [1,2,5,8,10,12])
 (.seq (.reg [Qo 29 (.fld (.t 12) 1),
 Qo 30 (.ldl (.t 29) none),
 Qo 31 (.bin .lss (.t 30) (.c (.d (.int .i64 0))))] [1,2,5,8,10,12,31])
 (.cond (.t 31) (.seq (.reg [Qo 32 (.bld [(.d (.int .i64 0)),(.d (.int .i64 0)),.AU] []),
 ⟨none,.st (.t 10) (.t 32) 3,none⟩,
 Qo 11 (.mv (.c (.d (.int .i64 3))))] [10,11])
 .ret)
 .skip)))
 (.seq (.reg [Qo 34 (.bin .eql (.t 21) (.c (.d (.int .i64 5)))),
 Qm 33 34] [1,2,4,5,8,10,12,33])
 (.cond (.t 33) (.seq (.reg [Qm 35 1,
 Qo 36 (.fld (.t 8) 1),
 Qo 37 (.ldl (.t 36) none),
 Qo 38 (.call 59 [(.t 35),(.t 37)]),
 Qo 39 (.fld (.t 12) 1),
 ⟨none,.st (.t 39) (.t 38) 1,none⟩] [1,2,4,5,8,10,12])
 (.seq (.seq (.reg [Qo 40 (.fld (.t 12) 1),
 Qo 41 (.ldl (.t 40) none),
 Qo 42 (.bin .lss (.t 41) (.c (.d (.int .i64 0))))] [1,2,4,5,8,10,12,42])
 (.cond (.t 42) (.seq (.reg [Qo 43 (.bld [(.d (.int .i64 0)),(.d (.int .i64 0)),.AU] []),
 ⟨none,.st (.t 10) (.t 43) 3,none⟩,
 Qo 11 (.mv (.c (.d (.int .i64 3))))] [10,11])
 .ret)
 .skip))
 (.seq (.seq (.reg [Qo 44 (.fld (.t 8) 2),
 Qo 45 (.ldl (.t 44) none),
 Qo 46 (.len (.t 45)),
 Qo 47 (.fld (.t 5) 0),
 Qo 48 (.ldl (.t 47) none),
 Qo 49 (.fld (.t 12) 1),
 Qo 50 (.ldl (.t 49) none),
 Qo 51 (.ix (.t 48) (.t 50) 3),
 Qo 52 (.fld (.t 51) 1),
 Qo 53 (.ld (.t 52) none),
 Qo 54 (.len (.t 53)),
 Qo 55 (.bin .neq (.t 46) (.t 54))] [1,2,4,5,8,10,12,55])
 (.cond (.t 55) (.seq (.reg [Qo 56 (.bld [(.d (.int .i64 0)),(.d (.int .i64 0)),.AU] []),
 ⟨none,.st (.t 10) (.t 56) 3,none⟩,
 Qo 11 (.mv (.c (.d (.int .i64 5))))] [10,11])
 .ret)
 .skip))
 (.seq (.reg [Qo 57 (.fld (.t 12) 1),
 Qo 58 (.ldl (.t 57) none),
 Qm 59 1,
 Qo 60 (.len (.t 59)),
 Qo 61 (.bin .sub (.t 60) (.c (.d (.int .i64 1)))),
 Qo 62 (.bin .eql (.t 58) (.t 61))] [1,2,4,5,8,10,12,62])
 (.cond (.t 62) (.seq (.seq (.reg [Qo 13 (.mv (.c (.d (.int .i64 0))))] [1,2,4,5,8,10,12,13])
 (.block 1 (.loop Td)))
 (.seq (.reg [Qm 91 4,
 Qo 92 (.un .not (.t 91))] [1,2,5,8,10,12,92])
 (.cond (.t 92) (.seq (.reg [Qo 93 (.bld [(.d (.int .i64 0)),(.d (.int .i64 0)),.AU] []),
 ⟨none,.st (.t 10) (.t 93) 3,none⟩,
 Qo 11 (.mv (.c (.d (.int .i64 7))))] [10,11])
 .ret)
 .skip)))
 .skip)))))
 .skip))))))
 (.seq (.seq (.reg [Qo 14 (.mv (.c (.d (.int .i64 0))))] [1,2,5,8,10,12,14])
 (.block 3 (.loop Ng)))
 (.seq (.reg [Qo 123 (.ldl (.t 12) (some 3)),
 ⟨none,.st (.t 10) (.t 123) 3,none⟩,
 Qo 11 (.mv (.c (.d (.int .i64 0))))] [10,11])
 .ret)))))
def Yq:List (List Nat×PT):=[([1,2,4,5,8,10],.done),([1,2,4,5,8,10,12],.done),([1,2,4,5,8,10,12,21],.done),([1,2,4,5,8,10,12,21,22],.done),([1,2,5,8,10,12],.done),([1,2,5,8,10,12,31],.done),([10,11],.done),([1,2,4,5,8,10,12,33],.done),([1,2,4,5,8,10,12],.done),([1,2,4,5,8,10,12,42],.done),([10,11],.done),([1,2,4,5,8,10,12,55],.done),([10,11],.done),([1,2,4,5,8,10,12,62],.done),([1,2,4,5,8,10,12,13],.done),([1,2,4,5,8,10,12,13,67],.done),([1,2,4,5,8,10,12,13,89],.done),([10,11],.done),([1,2,4,5,8,10,12,13],.done),([1,2,5,8,10,12,92],.done),([10,11],.done),([1,2,5,8,10,12,14],.done),([1,2,5,8,10,12,14,98],.done),([1,2,5,8,10,12,14,15,16],(.lay 12 (.one 0 (.one 1 (.one 2 (.one 3 (.one 4 (.one 5 (.one 6 (.one 7 (.one 8 (.one 9 (.one 10 (.one 11 (.one 13 (.one 14 .done)))))))))))))))),([1,2,5,8,10,12,14,15,16,114],.done),([10,11],.done),([1,2,5,8,10,12,14],.done),([1,2,5,8,10,12,14],.done),([10,11],.done)]
noncomputable def Gj:Cx:=⟨Tryz.prog,60,Tryz.f60,124,[300018,300021,300026,300030,300037,300041,300045,300048,300050,300058,300065,300071,300079,300096,300102,300106,300118,300119,300123],[],[.c 10 (some 3),.t 11]⟩
theorem EO:Good Gj:=⟨Tryz.func60,by kernel_rfl⟩
theorem Wy:Gj.rs=[.c 10 (some 3),.t 11]:=rfl
theorem YM (hl:args.length≤124) (h:Run Gj K [.code YD] (BK args) E σ):AK Tryz.prog 60 args σ K:=
 AX (cx:=Gj) (code:=Tryz.f60.body.getD .skip) EO (by kernel_rfl) Tryz.ntmps60 hl (AY Gj _ Yq _ [] (by kernel_rfl)) h
def Pd:C:=(.seq (.seq (.reg [Qm 15 8,
 Qm 16 0,
 Qm 17 7,
 Qo 18 (.ix (.t 16) (.t 17) 3),
 Qo 19 (.fld (.t 18) 2),
 Qo 20 (.ld (.t 19) none),
 Qo 21 (.len (.t 20)),
 Qo 22 (.bin .lss (.t 15) (.t 21))] [0,1,7,8,22])
 (.cond (.t 22) .skip
 (.exit 2)))
 (.seq (.block 3 (.seq (.reg [Qm 25 0,
 Qm 26 7,
 Qo 27 (.ix (.t 25) (.t 26) 3),
 Qo 28 (.fld (.t 27) 2),
 Qo 29 (.ld (.t 28) none),
 Qm 30 8,
 Qo 31 (.ix (.t 29) (.t 30) 2),
 Qo 32 (.fld (.t 31) 0),
 Qo 33 (.ld (.t 32) none),
 Qm 34 1,
 Qo 35 (.bin .eql (.t 33) (.t 34))] [0,1,7,8,35])
 (.cond (.t 35) (.seq (.reg [Qm 36 7,
 Qm 37 8,
 Qm 4 36,
 Qm 5 37,
 Qo 6 (.mv (.c (.d (.bool true))))] [4,5,6])
 .ret)
 .skip)))
 (.reg [Qm 23 8,
 Qo 24 (.bin .add (.t 23) (.c (.d (.int .i64 1)))),
 Qm 8 24] [0,1,7,8])))
def Pe:C:=(.seq (.seq (.reg [Qm 9 7,
 Qm 10 0,
 Qo 11 (.len (.t 10)),
 Qo 12 (.bin .lss (.t 9) (.t 11))] [0,1,7,12])
 (.cond (.t 12) .skip
 (.exit 0)))
 (.seq (.block 1 (.seq (.reg [Qo 8 (.mv (.c (.d (.int .i64 0))))] [0,1,7,8])
 (.block 2 (.loop Pd))))
 (.reg [Qm 13 7,
 Qo 14 (.bin .add (.t 13) (.c (.d (.int .i64 1)))),
 Qm 7 14] [0,1,7])))
def MH:C:=(.seq (.reg [Qo 4 (.mv (.c (.d (.int .i64 0)))),
 Qo 5 (.mv (.c (.d (.int .i64 0)))),
 Qo 6 (.mv (.c (.d (.bool false))))] [0,1])
 (.seq (.seq (.reg [Qo 7 (.mv (.c (.d (.int .i64 0))))] [0,1,7])
 (.block 0 (.loop Pe)))
 (.seq (.reg [Qo 4 (.mv (.c (.d (.int .i64 0)))),
 Qo 5 (.mv (.c (.d (.int .i64 0)))),
 Qo 6 (.mv (.c (.d (.bool false))))] [4,5,6])
 .ret)))
noncomputable def FN:Cx:=⟨Tryz.prog,67,Tryz.f67,38,[],[],[.t 4,.t 5,.t 6]⟩
theorem Ih:Good FN:=⟨Tryz.func67,by kernel_rfl⟩
theorem Rr:FN.rs=[.t 4,.t 5,.t 6]:=rfl
theorem S0 (hl:args.length≤38) (h:Run FN K [.code MH] (BK args) E σ):AK Tryz.prog 67 args σ K:=
 AX (cx:=FN) (code:=Tryz.f67.body.getD .skip) Ih (by kernel_rfl) Tryz.ntmps67 hl (AY FN _ (B0 MH) _ [] (by kernel_rfl)) h
def Jt:C:=(.seq (.seq (.reg [Qm 70 12,
 Qm 71 5,
 Qo 72 (.len (.t 71)),
 Qo 73 (.bin .lss (.t 70) (.t 72))] [0,1,5,6,7,8,9,10,12,73])
 (.cond (.t 73) .skip
 (.exit 2)))
 (.seq (.block 3 (.reg [Qm 76 7,
 Qm 77 76,
 ⟨some 78,.mv (.t 9),some (77,true)⟩,
 ⟨some 79,.mv (.t 6),some (77,true)⟩,
 ⟨some 80,.bin .eql (.t 78) (.t 79),some (77,true)⟩,
 ⟨some 81,.mv (.t 80),some (77,true)⟩,
 ⟨some 82,.mv (.t 5),some (81,true)⟩,
 ⟨some 83,.mv (.t 12),some (81,true)⟩,
 ⟨some 84,.ix (.t 82) (.t 83) 1,some (81,true)⟩,
 ⟨some 85,.ld (.t 84) none,some (81,true)⟩,
 ⟨some 86,.mv (.t 10),some (81,true)⟩,
 ⟨some 87,.bin .eql (.t 85) (.t 86),some (81,true)⟩,
 ⟨some 88,.pick (.t 81) (.t 87) (.c (.d (.bool false))),some (77,true)⟩,
 ⟨some 89,.un .not (.t 88),some (77,true)⟩,
 Qo 90 (.pick (.t 77) (.t 89) (.c (.d (.bool false)))),
 Qm 7 90] [0,1,5,6,7,8,9,10,12]))
 (.reg [Qm 74 12,
 Qo 75 (.bin .add (.t 74) (.c (.d (.int .i64 1)))),
 Qm 12 75] [0,1,5,6,7,8,9,10,12])))
def Pf:C:=(.seq (.seq (.reg [Qm 13 8,
 Qm 14 1,
 Qo 15 (.len (.t 14)),
 Qo 16 (.bin .lss (.t 13) (.t 15))] [0,1,5,6,7,8,16])
 (.cond (.t 16) .skip
 (.exit 0)))
 (.seq (.block 1 (.seq (.reg [Qm 20 0,
 Qo 21 (.nck (.t 20)),
 Qo 22 (.fld (.t 21) 2),
 Qo 23 (.ld (.t 22) none),
 Qm 24 1,
 Qm 25 8,
 Qo 26 (.ix (.t 24) (.t 25) 8),
 Qo 27 (.fld (.t 26) 0),
 Qo 28 (.ld (.t 27) none),
 Qo 29 (.call 67 [(.t 23),(.t 28)]),
 Qm 19 29,
 Qo 30 (.ext (.t 19) 0),
 Qo 31 (.ext (.t 19) 1),
 Qo 32 (.ext (.t 19) 2),
 Qm 9 30,
 Qm 10 31,
 Qm 11 32] [0,1,5,6,7,8,9,10,11])
 (.seq (.seq (.reg [Qm 33 11,
 Qo 34 (.un .not (.t 33))] [0,1,5,6,7,8,9,10,34])
 (.cond (.t 34) (.seq (.reg [Qo 4 (.mv (.c (.d (.int .i64 3))))] [4])
 .ret)
 .skip))
 (.seq (.seq (.reg [Qm 35 1,
 Qm 36 8,
 Qo 37 (.ix (.t 35) (.t 36) 8),
 Qo 38 (.fld (.t 37) 1),
 Qo 39 (.ld (.t 38) none),
 Qo 40 (.len (.t 39)),
 Qm 41 0,
 Qo 42 (.nck (.t 41)),
 Qo 43 (.fld (.t 42) 2),
 Qo 44 (.ld (.t 43) none),
 Qm 45 9,
 Qo 46 (.ix (.t 44) (.t 45) 3),
 Qo 47 (.fld (.t 46) 2),
 Qo 48 (.ld (.t 47) none),
 Qm 49 10,
 Qo 50 (.ix (.t 48) (.t 49) 2),
 Qo 51 (.fld (.t 50) 1),
 Qo 52 (.ld (.t 51) none),
 Qo 53 (.len (.t 52)),
 Qo 54 (.bin .neq (.t 40) (.t 53))] [0,1,5,6,7,8,9,10,54])
 (.cond (.t 54) (.seq (.reg [Qo 4 (.mv (.c (.d (.int .i64 5))))] [4])
 .ret)
 .skip))
 (.seq (.seq (.reg [Qm 55 1,
 Qm 56 8,
 Qo 57 (.ix (.t 55) (.t 56) 8),
 Qo 58 (.fld (.t 57) 1),
 Qo 59 (.ld (.t 58) none),
 Qo 60 (.call 38 [(.t 59)])] [0,1,5,6,7,8,9,10,60])
 (.cond (.t 60) (.seq (.reg [Qo 4 (.mv (.c (.d (.int .i64 4))))] [4])
 .ret)
 .skip))
 (.seq (.seq (.reg [Qm 61 6,
 Qo 62 (.bin .lss (.t 61) (.c (.d (.int .i64 0))))] [0,1,5,6,7,8,9,10,62])
 (.cond (.t 62) (.reg [Qm 63 9,
 Qm 6 63] [0,1,5,6,7,8,9,10])
 .skip))
 (.seq (.reg [Qm 64 7,
 Qm 65 64,
 ⟨some 66,.mv (.t 9),some (65,true)⟩,
 ⟨some 67,.mv (.t 6),some (65,true)⟩,
 ⟨some 68,.bin .eql (.t 66) (.t 67),some (65,true)⟩,
 Qo 69 (.pick (.t 65) (.t 68) (.c (.d (.bool false)))),
 Qm 7 69] [0,1,5,6,7,8,9,10])
 (.seq (.seq (.reg [Qo 12 (.mv (.c (.d (.int .i64 0))))] [0,1,5,6,7,8,9,10,12])
 (.block 2 (.loop Jt)))
 (.reg [Qm 91 5,
 Qm 92 10,
 Qo 93 (.bsl 1 1 [(.d (.int .i64 0))] [(0,1,(.t 92))]),
 Qo 94 (.app 3 1 8 (.t 91) (.t 93)),
 Qm 5 94] [0,1,5,6,7,8])))))))))
 (.reg [Qm 17 8,
 Qo 18 (.bin .add (.t 17) (.c (.d (.int .i64 1)))),
 Qm 8 18] [0,1,5,6,7,8])))
def MI:C:=(.seq (.reg [Qo 4 (.mv (.c (.d (.int .i64 0))))] [0,1])
 (.seq (.reg [Qo 5 (.mv (.c .AU))] [0,1,5])
 (.seq (.reg [Qo 6 (.mv (.c (.d (.int .i64 (-1)))))] [0,1,5,6])
 (.seq (.reg [Qo 7 (.mv (.c (.d (.bool true))))] [0,1,5,6,7])
 (.seq (.seq (.reg [Qo 8 (.mv (.c (.d (.int .i64 0))))] [0,1,5,6,7,8])
 (.block 0 (.loop Pf)))
 (.seq (.seq (.reg [Qm 95 7,
 Qo 96 (.un .not (.t 95)),
 Qm 97 96,
 ⟨some 98,.mv (.t 1),some (97,false)⟩,
 ⟨some 99,.len (.t 98),some (97,false)⟩,
 ⟨some 100,.mv (.t 0),some (97,false)⟩,
 ⟨some 101,.nck (.t 100),some (97,false)⟩,
 ⟨some 102,.fld (.t 101) 2,some (97,false)⟩,
 ⟨some 103,.ld (.t 102) none,some (97,false)⟩,
 ⟨some 104,.mv (.t 6),some (97,false)⟩,
 ⟨some 105,.ix (.t 103) (.t 104) 3,some (97,false)⟩,
 ⟨some 106,.fld (.t 105) 2,some (97,false)⟩,
 ⟨some 107,.ld (.t 106) none,some (97,false)⟩,
 ⟨some 108,.len (.t 107),some (97,false)⟩,
 ⟨some 109,.bin .neq (.t 99) (.t 108),some (97,false)⟩,
 Qo 110 (.pick (.t 97) (.c (.d (.bool true))) (.t 109))] [110])
 (.cond (.t 110) (.seq (.reg [Qo 4 (.mv (.c (.d (.int .i64 7))))] [4])
 .ret)
 .skip))
 (.seq (.reg [Qo 4 (.mv (.c (.d (.int .i64 0))))] [4])
 .ret)))))))
noncomputable def De:Cx:=⟨Tryz.prog,68,Tryz.f68,111,[],[],[.t 4]⟩
theorem D8:Good De:=⟨Tryz.func68,by kernel_rfl⟩
theorem Rs:De.rs=[.t 4]:=rfl
theorem S1 (hl:args.length≤111) (h:Run De K [.code MI] (BK args) E σ):AK Tryz.prog 68 args σ K:=
 AX (cx:=De) (code:=Tryz.f68.body.getD .skip) D8 (by kernel_rfl) Tryz.ntmps68 hl (AY De _ (B0 MI) _ [] (by kernel_rfl)) h
attribute [go_sem] Oz Vn aB dL Qv OD aC dM Wy Rr Rs
end Go.Ab
