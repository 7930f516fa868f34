/- The equations that run compact code, as one set. The types of package api as plain data, and how they lie in abstract values. The programs of package api as plain data, and how they lie in abstract values. The compact codes of the functions of this seat, computed out of the translation. Conditions: none. -/
import Derived.Test.YtifplkldbbcldaaGreatDoorProg
import Derived.KernelRfl
import Derived.Test.YtifplkldbbcldaaGreatDoorXLift
set_option linter.unusedSimpArgs false
set_option linter.unusedVariables false
set_option maxRecDepth 4000
set_option maxHeartbeats 8000000
open Option renaming bind_some→B0,map_some→CR,bind_eq_bind→AS
open List renaming map_cons→AE,map_nil→AH,all_cons→Bk,all_nil→K9,length_cons→AD,length_nil→AF,getElem?_cons_zero→Ca,getElem?_cons_succ→Vb,take_succ_cons→Rr,take_zero→Jj,cons_append→AU,nil_append→A6,append_nil→A0,getElem?_map→Av,getElem?_eq_some_iff→A8
open Bool renaming and_true→B7,true_and→Cl,or_true→NO,or_false→Lf,false_eq_true→AY
open Nat renaming add_zero→FX,zero_add→B5,le_refl→A7
namespace Go.Ab
attribute [go_sem] wW rO rN rP rM exP SF cO qF p9 kV kP iG iA qN qI wB vX nA mV eL fJ vE Yi rQ vN rU wX vM vL rY r3 vH rT fdA jO YF YL Km oQ iT bP Zb iY cZ oZ Option.map_none false_implies true_implies vP vO r4 r7 vK oH w8 rX vD w6 w5 rZ vF r1 uZ rR xA rW u6 vB vG vC vJ w7 vA wV rS uX w9 oI rV oG uY oE vI w4 wZ wC wD jL Ig nJ vQ vV lL iL iK cH dE qW dD jK xM xL ixA ixR Int.toNat_natCast Int.natCast_nonneg j3 Yx dG rvA oR bR gW bO gV kT kS kQ bQ kU kR gX Z0 lI Zd cE Z9 cD iE iD iB Zc iF iC cF Yb J6 jA mM iX FO qL Ic qJ iZ qM qK mN cQ xD o8 tI oY tH v8 v7 vY o6 wA vZ tJ k8 jN nM jM uL iP lW iO pP pQ tV Ys Sh jD cY UX mY mX mW c8 mZ plain_fn jE aA AV.Ej Cut gE rL rK rJ Zy cA rdC ldA YJ hY gP Xm unA hC mK stA wr Ho dvs chunk xvs Af qV jJ uA iV mH iS mG qD qC qA iU qE qB mI cM AO A1 F8 bZ B0 CR AS Option.pure_def AE AH Bk K9 AD AF Ca Vb Rr Jj List.drop_succ_cons List.drop_zero List.take_nil List.drop_nil AU A6 A0 Bool.and_self B7 Cl NO Bool.true_or Lf Bool.false_or Bool.not_true Bool.not_false Bool.and_false Bool.false_and Bool.not_not BEq.rfl beq_self_eq_true FX B5 decide_true decide_false A7 and_self and_true true_and ite_true ite_false AY Bool.cond_true Bool.cond_false beq_true beq_false Bool.true_beq Bool.false_beq
def BB:C→List (List Nat×PT)
 | .reg _ l=>[(l,.done)]
 | .Qi _ l=>[(l,.done)]
 | .seq x y=>BB x++BB y
 | .cond _ t e=>BB t++BB e
 | .block _ c=>BB c
 | .loop c=>BB c
 | .scope c=>BB c
 |_=>[]
@[reducible] def Qo (d:Nat) (o:O):Q:=⟨some d,o,none⟩
@[reducible] def Qm (d s:Nat):Q:=⟨some d,.mv (.t s),none⟩
attribute [go_sem] Qo Qm
end Go.Ab
namespace Go.Ab
inductive Ty where
 |mk (kind num:Int) (args:List Ty)
def Ty.kind:Ty→Int| .mk k _ _=>k
def Ty.num:Ty→Int| .mk _ n _=>n
def Ty.args:Ty→List Ty| .mk _ _ l=>l
mutual
def Ty.enc:Ty→List DV
 | .mk k n l=>[.int .i64 k,.int .i64 n,.sl (Ty.M0 l)]
def Ty.M0:List Ty→List (List DV)
 |[]=>[]
 |t::l=>Ty.enc t::Ty.M0 l
end
mutual
def Ty.size:Ty→Nat
 | .mk _ _ l=>1+Ty.BN l
def Ty.BN:List Ty→Nat
 |[]=>0
 |t::l=>Ty.size t+Ty.BN l
end
def tyA (t:Ty):AV:= .agg (t.enc.map AV.d)
def xK (l:List Ty):AV:= .d (.sl (Ty.M0 l))
theorem Jg {α:Type} {l:List α} {i:Nat} {x:α} (h:l[i]?=some x):l.take (i+1)=l.take i++[x]:=by
 rw [List.take_add_one,h];rfl
theorem En:∀(l m:List Ty),Ty.BN (l++m)=Ty.BN l+Ty.BN m
 |[],m=>by simp [Ty.BN]
 |u::l,m=>by simp only [AU,Ty.BN,En l m];omega
theorem size_pos:∀t:Ty,1≤t.size
 | .mk _ _ _=>by simp [Ty.size]
theorem Hu:∀l:List Ty,l.length≤Ty.BN l
 |[]=>by simp [Ty.BN]
 |t::l=>by have:=Hu l;have:=size_pos t;simp only [AD,Ty.BN];omega
end Go.Ab
namespace Go.Ab
abbrev Str:=List UInt8
inductive TE where
 |mk (kind:Int) (name:Str) (args:List TE)
structure CE where
 name:Str
 args:List TE
structure DE where
 name:Str
 vars:List Str
 cons:List CE
mutual
inductive Ex where
 |mk (op:Int) (name:Str) (num:Int) (names:List Str) (kids:List Ex) (alts:List Al)
inductive Al where
 |mk (con:Str) (vars:List Str) (body:Ex)
end
structure FE where
 name:Str
 params:List Str
 body:Ex
structure Pg where
 data:List DE
 R4:List FE
def FB (s:Str):List DV:=[.str s]
def ssD (l:List Str):DV:= .sl (l.map FB)
mutual
def TE.enc:TE→List DV
 | .mk k n l=>[.int .i64 k,.str n,.sl (TE.M0 l)]
def TE.M0:List TE→List (List DV)
 |[]=>[]
 |t::l=>TE.enc t::TE.M0 l
end
theorem TE.HP:∀l:List TE,TE.M0 l=l.map TE.enc
 |[]=>rfl
 |t::l=>by simp [TE.M0,TE.HP l]
theorem TE.A3 (k:Int) (n:Str) (l:List TE):(TE.mk k n l).enc=[.int .i64 k,.str n,.sl (l.map TE.enc)]:=by
 simp [TE.enc,TE.HP]
mutual
def Ex.enc:Ex→List DV
 | .mk o n u ns ks aS=>[.int .i64 o,.str n,.int .i64 u,ssD ns,.sl (Ex.M0 ks),.sl (Al.M0 aS)]
def Ex.M0:List Ex→List (List DV)
 |[]=>[]
 |t::l=>Ex.enc t::Ex.M0 l
def Al.enc:Al→List DV
 | .mk c vs b=>.str c::ssD vs::Ex.enc b
def Al.M0:List Al→List (List DV)
 |[]=>[]
 |t::l=>Al.enc t::Al.M0 l
end
theorem Ex.HP:∀l:List Ex,Ex.M0 l=l.map Ex.enc
 |[]=>rfl
 |t::l=>by simp [Ex.M0,Ex.HP l]
theorem Al.HP:∀l:List Al,Al.M0 l=l.map Al.enc
 |[]=>rfl
 |t::l=>by simp [Al.M0,Al.HP l]
theorem Ex.A3 (o:Int) (n:Str) (u:Int) (ns:List Str) (ks:List Ex) (aS:List Al):(Ex.mk o n u ns ks aS).enc=[.int .i64 o,.str n,.int .i64 u,.sl (ns.map FB),.sl (ks.map Ex.enc),.sl (aS.map Al.enc)]:=by
 simp [Ex.enc,Ex.HP,Al.HP,ssD]
theorem Al.A3 (c:Str) (vs:List Str) (o:Int) (n:Str) (u:Int) (ns:List Str) (ks:List Ex) (aS:List Al):(Al.mk c vs (.mk o n u ns ks aS)).enc=[.str c,.sl (vs.map FB),.int .i64 o,.str n,.int .i64 u,.sl (ns.map FB),.sl (ks.map Ex.enc),.sl (aS.map Al.enc)]:=by
 simp [Al.enc,Ex.A3,ssD]
def CE.enc (c:CE):List DV:=[.str c.name,.sl (c.args.map TE.enc)]
def DE.enc (d:DE):List DV:=[.str d.name,.sl (d.vars.map FB),.sl (d.cons.map CE.enc)]
def FE.enc (f:FE):List DV:= .str f.name::.sl (f.params.map FB)::f.body.enc
def Pg.enc (p:Pg):List DV:=[.sl (p.data.map DE.enc),.sl (p.R4.map FE.enc)]
def teA (t:TE):AV:= .agg (t.enc.map AV.d)
def exA (e:Ex):AV:= .agg (e.enc.map AV.d)
def alA (e:Al):AV:= .agg (e.enc.map AV.d)
def ceA (c:CE):AV:= .agg (c.enc.map AV.d)
def deA (c:DE):AV:= .agg (c.enc.map AV.d)
def feA (c:FE):AV:= .agg (c.enc.map AV.d)
def pgA (p:Pg):AV:= .agg (p.enc.map AV.d)
theorem Ty.HP:∀l:List Ty,Ty.M0 l=l.map Ty.enc
 |[]=>rfl
 |t::l=>by simp [Ty.M0,Ty.HP l]
theorem CW {α:Type} {enc:α→List DV} {l:List α} {i:Nat} {x:α} (h:l[i]?=some x):(l.map enc)[i]?=some (enc x):=by
 rw [Av,h];rfl
theorem IZ {α:Type} {l:List α} {i:Nat} {x:α} (h:l[i]?=some x):l.drop i=x::l.drop (i+1):=by
 have hlt:=(A8.1 h).1
 rw [List.drop_eq_getElem_cons hlt];congr 1;exact (A8.1 h).2
theorem DN {α:Type} {l:List α} {i:Nat} (h:i < l.length):∃x,l[i]?=some x:=⟨l[i],by simp [h]⟩
mutual
def TE.size:TE→Nat
 | .mk _ _ l=>1+TE.BN l
def TE.BN:List TE→Nat
 |[]=>0
 |t::l=>TE.size t+TE.BN l
end
mutual
def Ex.size:Ex→Nat
 | .mk _ _ _ _ ks aS=>1+Ex.BN ks+Al.BN aS
def Ex.BN:List Ex→Nat
 |[]=>0
 |t::l=>Ex.size t+Ex.BN l
def Al.size:Al→Nat
 | .mk _ _ b=>Ex.size b
def Al.BN:List Al→Nat
 |[]=>0
 |t::l=>Al.size t+Al.BN l
end
theorem TE.size_pos:∀t:TE,1≤t.size
 | .mk _ _ _=>by simp [TE.size]
theorem Ex.size_pos:∀t:Ex,1≤t.size
 | .mk _ _ _ _ _ _=>by simp only [Ex.size];omega
theorem TE.Sf {l:List TE} {t:TE} (h:t∈l):t.size≤TE.BN l:=by
 induction l with
 |nil=>cases h
 |cons u l ih=>
  simp only [TE.BN]
  cases h with
  |head=>omega
  |tail _ h=>have:=ih h;omega
theorem Ex.Sf {l:List Ex} {t:Ex} (h:t∈l):t.size≤Ex.BN l:=by
 induction l with
 |nil=>cases h
 |cons u l ih=>
  simp only [Ex.BN]
  cases h with
  |head=>omega
  |tail _ h=>have:=ih h;omega
theorem Al.Sf {l:List Al} {t:Al} (h:t∈l):t.size≤Al.BN l:=by
 induction l with
 |nil=>cases h
 |cons u l ih=>
  simp only [Al.BN]
  cases h with
  |head=>omega
  |tail _ h=>have:=ih h;omega
theorem TE.Hu:∀l:List TE,l.length≤TE.BN l
 |[]=>by simp [TE.BN]
 |t::l=>by have:=TE.Hu l;have:=TE.size_pos t;simp only [AD,TE.BN];omega
theorem Ex.Hu:∀l:List Ex,l.length≤Ex.BN l
 |[]=>by simp [Ex.BN]
 |t::l=>by have:=Ex.Hu l;have:=Ex.size_pos t;simp only [AD,Ex.BN];omega
theorem Al.Hu:∀l:List Al,l.length≤Al.BN l
 |[]=>by simp [Al.BN]
 | .mk _ _ b::l=>by have:=Al.Hu l;have:=Ex.size_pos b;simp only [AD,Al.BN,Al.size];omega
theorem TE.En:∀(l m:List TE),TE.BN (l++m)=TE.BN l+TE.BN m
 |[],m=>by simp [TE.BN]
 |u::l,m=>by simp only [AU,TE.BN,TE.En l m];omega
theorem Ex.En:∀(l m:List Ex),Ex.BN (l++m)=Ex.BN l+Ex.BN m
 |[],m=>by simp [Ex.BN]
 |u::l,m=>by simp only [AU,Ex.BN,Ex.En l m];omega
theorem Al.En:∀(l m:List Al),Al.BN (l++m)=Al.BN l+Al.BN m
 |[],m=>by simp [Al.BN]
 |u::l,m=>by simp only [AU,Al.BN,Al.En l m];omega
end Go.Ab
namespace Go.Ab
open Go.Proofs
variable {args:List AV} {σ:AN} {K:AV→AN→Prop}
theorem mixed:Tryz.prog.follows .mixedOrders=true:=by kernel_rfl
def TF:C:=(.seq (.reg [Qo 22 (.bin .lss (.t 21) (.t 20))] [1,19,20,21,22])
 (.seq (.cond (.t 22) .skip
 (.exit 0))
 (.seq (.block 1 (.seq (.reg [Qo 23 (.ix (.t 19) (.t 21) 3),
 Qo 24 (.ld (.t 23) (some 3)),
 Qo 4 (.al [(.d (.str [])),.AW,.AW] false),
 ⟨none,.st (.t 4) (.t 24) 3,none⟩] [1,4,19,20,21])
 (.seq (.reg [Qo 25 (.ldl (.t 4) (some 3)),
 Qo 26 (.call 50 [(.t 25)]),
 Qo 27 (.un .not (.t 26))] [1,19,20,21,27])
 (.cond (.t 27) (.seq (.reg [Qo 2 (.mv (.c (.d (.bool false))))] [2])
 .ret)
 .skip))))
 (.reg [Qo 28 (.bin .add (.t 21) (.c (.d (.int .i64 1)))),
 Qm 21 28] [1,19,20,21]))))
def TG:C:=(.seq (.reg [Qo 35 (.bin .lss (.t 34) (.t 33))] [5,32,33,34,35])
 (.seq (.cond (.t 35) .skip
 (.exit 2))
 (.seq (.block 3 (.seq (.reg [Qo 36 (.ix (.t 32) (.t 34) 8),
 Qo 37 (.ld (.t 36) (some 8)),
 Qo 7 (.al [(.d (.str [])),.AW,(.d (.int .i64 0)),(.d (.str [])),(.d (.int .i64 0)),.AW,.AW,.AW] false),
 ⟨none,.st (.t 7) (.t 37) 8,none⟩] [5,7,32,33,34])
 (.seq (.reg [Qo 38 (.fld (.t 7) 0),
 Qo 39 (.ldl (.t 38) none),
 Qo 40 (.call 51 [(.t 39)]),
 Qo 41 (.un .not (.t 40)),
 Qm 42 41,
 ⟨some 43,.fld (.t 7) 1,some (42,false)⟩,
 ⟨some 44,.ldl (.t 43) none,some (42,false)⟩,
 ⟨some 45,.len (.t 44),some (42,false)⟩,
 ⟨some 46,.bin .gtr (.t 45) (.c (.d (.int .i64 6))),some (42,false)⟩,
 Qo 47 (.pick (.t 42) (.c (.d (.bool true))) (.t 46)),
 Qm 48 47,
 ⟨some 49,.fld (.t 7) 1,some (48,false)⟩,
 ⟨some 50,.ldl (.t 49) none,some (48,false)⟩,
 ⟨some 51,.call 52 [(.t 50),(.c (.fn 51 [] []))],some (48,false)⟩,
 ⟨some 52,.un .not (.t 51),some (48,false)⟩,
 Qo 53 (.pick (.t 48) (.c (.d (.bool true))) (.t 52)),
 Qm 54 53,
 ⟨some 55,.mv (.t 5),some (54,false)⟩,
 ⟨some 56,.fld (.t 7) 2,some (54,false)⟩,
 ⟨some 57,.ldl (.t 56) (some 6),some (54,false)⟩,
 ⟨some 58,.call 53 [(.t 55),(.t 57),(.c (.d (.int .i64 1)))],some (54,false)⟩,
 ⟨some 59,.un .not (.t 58),some (54,false)⟩,
 Qo 60 (.pick (.t 54) (.c (.d (.bool true))) (.t 59))] [5,32,33,34,60])
 (.cond (.t 60) (.seq (.reg [Qo 2 (.mv (.c (.d (.bool false))))] [2])
 .ret)
 .skip))))
 (.reg [Qo 61 (.bin .add (.t 34) (.c (.d (.int .i64 1)))),
 Qm 34 61] [5,32,33,34]))))
def QF:C:=(.seq (.reg [Qo 1 (.box (.t 0) false),
 Qo 2 (.mv (.c (.d (.bool false))))] [1])
 (.seq (.seq (.reg [Qo 8 (.fld (.t 1) 0),
 Qo 9 (.ldl (.t 8) none),
 Qo 10 (.len (.t 9)),
 Qo 11 (.bin .gtr (.t 10) (.c (.d (.int .i64 12)))),
 Qm 12 11,
 ⟨some 13,.fld (.t 1) 1,some (12,false)⟩,
 ⟨some 14,.ldl (.t 13) none,some (12,false)⟩,
 ⟨some 15,.len (.t 14),some (12,false)⟩,
 ⟨some 16,.bin .gtr (.t 15) (.c (.d (.int .i64 24))),some (12,false)⟩,
 Qo 17 (.pick (.t 12) (.c (.d (.bool true))) (.t 16))] [1,17])
 (.cond (.t 17) (.seq (.reg [Qo 2 (.mv (.c (.d (.bool false))))] [2])
 .ret)
 .skip))
 (.seq (.seq (.reg [Qo 18 (.fld (.t 1) 0),
 Qo 19 (.ldl (.t 18) none),
 Qo 20 (.len (.t 19)),
 Qo 21 (.mv (.c (.d (.int .i64 0))))] [1,19,20,21])
 (.block 0 (.loop TF)))
 (.seq (.reg [Qo 29 (.bld [(.d (.int .i64 0))] []),
 Qo 30 (.box (.t 29) true),
 Qm 5 30] [1,5])
 (.seq (.seq (.reg [Qo 31 (.fld (.t 1) 1),
 Qo 32 (.ldl (.t 31) none),
 Qo 33 (.len (.t 32)),
 Qo 34 (.mv (.c (.d (.int .i64 0))))] [5,32,33,34])
 (.block 2 (.loop TG)))
 (.seq (.reg [Qo 2 (.mv (.c (.d (.bool true))))] [2])
 .ret))))))
noncomputable def Gg:Cx:=⟨Tryz.prog,19,Tryz.f19,62,[30,300009,300014,300019,300025,300032,300039,300044,300050,300057],[],[.t 2]⟩
theorem Cr:Good Gg:=⟨Tryz.func19,by kernel_rfl⟩
theorem VK:Gg.rs=[.t 2]:=rfl
theorem WB (hl:args.length≤62) (h:Run Gg K [.code QF] (As args) E σ):AT Tryz.prog 19 args σ K:=
 AX (cx:=Gg) (code:=Tryz.f19.body.getD .skip) Cr (by kernel_rfl) Tryz.ntmps19 hl (AZ Gg _ (BB QF) _ [] (by kernel_rfl)) h
def Ln:C:=(.seq (.reg [Qo 1 (.box (.t 0) false),
 Qo 2 (.mv (.c (.d (.bool false))))] [1])
 (.seq (.seq (.reg [Qo 3 (.fld (.t 1) 0),
 Qo 4 (.ldl (.t 3) none),
 Qo 5 (.call 101 [(.t 4)]),
 Qo 6 (.un .not (.t 5)),
 Qm 7 6,
 ⟨some 8,.fld (.t 1) 1,some (7,false)⟩,
 ⟨some 9,.ldl (.t 8) none,some (7,false)⟩,
 ⟨some 10,.len (.t 9),some (7,false)⟩,
 ⟨some 11,.bin .gtr (.t 10) (.c (.d (.int .i64 6))),some (7,false)⟩,
 Qo 12 (.pick (.t 7) (.c (.d (.bool true))) (.t 11)),
 Qm 13 12,
 ⟨some 14,.fld (.t 1) 1,some (13,false)⟩,
 ⟨some 15,.ldl (.t 14) none,some (13,false)⟩,
 ⟨some 16,.call 52 [(.t 15),(.c (.fn 51 [] []))],some (13,false)⟩,
 ⟨some 17,.un .not (.t 16),some (13,false)⟩,
 Qo 18 (.pick (.t 13) (.c (.d (.bool true))) (.t 17))] [1,18])
 (.cond (.t 18) (.seq (.reg [Qo 2 (.mv (.c (.d (.bool false))))] [2])
 .ret)
 .skip))
 (.seq (.seq (.reg [Qo 19 (.fld (.t 1) 2),
 Qo 20 (.ldl (.t 19) none),
 Qo 21 (.len (.t 20)),
 Qo 22 (.bin .lss (.t 21) (.c (.d (.int .i64 1)))),
 Qm 23 22,
 ⟨some 24,.fld (.t 1) 2,some (23,false)⟩,
 ⟨some 25,.ldl (.t 24) none,some (23,false)⟩,
 ⟨some 26,.len (.t 25),some (23,false)⟩,
 ⟨some 27,.bin .gtr (.t 26) (.c (.d (.int .i64 8))),some (23,false)⟩,
 Qo 28 (.pick (.t 23) (.c (.d (.bool true))) (.t 27))] [1,28])
 (.cond (.t 28) (.seq (.reg [Qo 2 (.mv (.c (.d (.bool false))))] [2])
 .ret)
 .skip))
 (.seq (.reg [Qo 29 (.fld (.t 1) 2),
 Qo 30 (.ldl (.t 29) none),
 Qo 31 (.call 102 [(.t 30),(.c (.fn 103 [] []))]),
 Qm 2 31] [2])
 .ret))))
noncomputable def E8:Cx:=⟨Tryz.prog,50,Tryz.f50,32,[300004,300009,300015,300020,300025,300030],[],[.t 2]⟩
theorem Lx:Good E8:=⟨Tryz.func50,by kernel_rfl⟩
theorem LM:E8.rs=[.t 2]:=rfl
theorem Sa (hl:args.length≤32) (h:Run E8 K [.code Ln] (As args) E σ):AT Tryz.prog 50 args σ K:=
 AX (cx:=E8) (code:=Tryz.f50.body.getD .skip) Lx (by kernel_rfl) Tryz.ntmps50 hl (AZ E8 _ (BB Ln) _ [] (by kernel_rfl)) h
def PI:C:=(.seq (.reg [Qo 2 (.mv (.c (.d (.bool false))))] [0])
 (.seq (.reg [Qm 3 0,
 Qo 4 (.call 107 [(.t 3),(.c (.d (.int .i64 1)))]),
 Qm 2 4] [2])
 .ret))
noncomputable def Fv:Cx:=⟨Tryz.prog,51,Tryz.f51,5,[],[],[.t 2]⟩
theorem PN:Good Fv:=⟨Tryz.func51,by kernel_rfl⟩
theorem U4:Fv.rs=[.t 2]:=rfl
theorem VE (hl:args.length≤5) (h:Run Fv K [.code PI] (As args) E σ):AT Tryz.prog 51 args σ K:=
 AX (cx:=Fv) (code:=Tryz.f51.body.getD .skip) PN (by kernel_rfl) Tryz.ntmps51 hl (AZ Fv _ (BB PI) _ [] (by kernel_rfl)) h
def Kx:C:=(.seq (.reg [Qo 3 (.box (.t 1) true),
 Qo 4 (.mv (.c (.d (.bool false))))] [0,3])
 (.seq (.reg [Qm 5 0,
 Qo 6 (.mkf 109 [] [(.t 3)]),
 Qo 7 (.call 108 [(.t 5),(.t 6)]),
 Qo 8 (.un .not (.t 7)),
 Qm 4 8] [4])
 .ret))
noncomputable def EP:Cx:=⟨Tryz.prog,52,Tryz.f52,9,[3],[],[.t 4]⟩
theorem LD:Good EP:=⟨Tryz.func52,by kernel_rfl⟩
theorem Qj:EP.rs=[.t 4]:=rfl
theorem R5 (hl:args.length≤9) (h:Run EP K [.code Kx] (As args) E σ):AT Tryz.prog 52 args σ K:=
 AX (cx:=EP) (code:=Tryz.f52.body.getD .skip) LD (by kernel_rfl) Tryz.ntmps52 hl (AZ EP _ (BB Kx) _ [] (by kernel_rfl)) h
def Mr:C:=(.seq (.reg [Qo 36 (.bin .lss (.t 35) (.t 34))] [0,2,4,33,34,35,36])
 (.seq (.cond (.t 36) .skip
 (.exit 0))
 (.seq (.block 1 (.seq (.reg [Qo 37 (.ix (.t 33) (.t 35) 6),
 Qo 38 (.ld (.t 37) (some 6)),
 Qo 8 (.al [(.d (.int .i64 0)),(.d (.str [])),(.d (.int .i64 0)),.AW,.AW,.AW] false),
 ⟨none,.st (.t 8) (.t 38) 6,none⟩] [0,2,4,8,33,34,35])
 (.seq (.reg [Qm 39 0,
 Qo 40 (.ldl (.t 8) (some 6)),
 Qm 41 2,
 Qo 42 (.bin .add (.t 41) (.c (.d (.int .i64 1)))),
 Qo 43 (.call 53 [(.t 39),(.t 40),(.t 42)]),
 Qo 44 (.un .not (.t 43))] [0,2,4,33,34,35,44])
 (.cond (.t 44) (.seq (.reg [Qo 6 (.mv (.c (.d (.bool false))))] [6])
 .ret)
 .skip))))
 (.reg [Qo 45 (.bin .add (.t 35) (.c (.d (.int .i64 1)))),
 Qm 35 45] [0,2,4,33,34,35]))))
def Ms:C:=(.seq (.reg [Qo 50 (.bin .lss (.t 49) (.t 48))] [0,2,47,48,49,50])
 (.seq (.cond (.t 50) .skip
 (.exit 2))
 (.seq (.block 3 (.seq (.reg [Qo 51 (.ix (.t 47) (.t 49) 8),
 Qo 52 (.ld (.t 51) (some 8)),
 Qo 10 (.al [(.d (.str [])),.AW,(.d (.int .i64 0)),(.d (.str [])),(.d (.int .i64 0)),.AW,.AW,.AW] false),
 ⟨none,.st (.t 10) (.t 52) 8,none⟩] [0,2,10,47,48,49])
 (.seq (.reg [Qm 53 0,
 Qo 54 (.fld (.t 10) 2),
 Qo 55 (.ldl (.t 54) (some 6)),
 Qm 56 2,
 Qo 57 (.bin .add (.t 56) (.c (.d (.int .i64 1)))),
 Qo 58 (.call 53 [(.t 53),(.t 55),(.t 57)]),
 Qo 59 (.un .not (.t 58))] [0,2,47,48,49,59])
 (.cond (.t 59) (.seq (.reg [Qo 6 (.mv (.c (.d (.bool false))))] [6])
 .ret)
 .skip))))
 (.reg [Qo 60 (.bin .add (.t 49) (.c (.d (.int .i64 1)))),
 Qm 49 60] [0,2,47,48,49]))))
def JA:C:=(.seq (.reg [Qo 4 (.box (.t 1) false),
 Qo 6 (.mv (.c (.d (.bool false))))] [0,2,4])
 (.seq (.reg [Qm 11 0,
 Qo 12 (.nck (.t 11)),
 Qo 13 (.fld (.t 12) 0),
 Qo 14 (.ld (.t 13) none),
 Qo 15 (.bin .add (.t 14) (.c (.d (.int .i64 1)))),
 Qo 16 (.nck (.t 11)),
 Qo 17 (.fld (.t 16) 0),
 ⟨none,.st (.t 17) (.t 15) 1,none⟩] [0,2,4])
 (.seq (.seq (.reg [Qm 18 0,
 Qo 19 (.nck (.t 18)),
 Qo 20 (.fld (.t 19) 0),
 Qo 21 (.ld (.t 20) none),
 Qo 22 (.bin .gtr (.t 21) (.c (.d (.int .i64 600)))),
 Qm 23 22,
 ⟨some 24,.mv (.t 2),some (23,false)⟩,
 ⟨some 25,.bin .gtr (.t 24) (.c (.d (.int .i64 40))),some (23,false)⟩,
 Qo 26 (.pick (.t 23) (.c (.d (.bool true))) (.t 25)),
 Qm 27 26,
 ⟨some 28,.ldl (.t 4) (some 6),some (27,false)⟩,
 ⟨some 29,.call 110 [(.t 28)],some (27,false)⟩,
 ⟨some 30,.un .not (.t 29),some (27,false)⟩,
 Qo 31 (.pick (.t 27) (.c (.d (.bool true))) (.t 30))] [0,2,4,31])
 (.cond (.t 31) (.seq (.reg [Qo 6 (.mv (.c (.d (.bool false))))] [6])
 .ret)
 .skip))
 (.seq (.seq (.reg [Qo 32 (.fld (.t 4) 4),
 Qo 33 (.ldl (.t 32) none),
 Qo 34 (.len (.t 33)),
 Qo 35 (.mv (.c (.d (.int .i64 0))))] [0,2,4,33,34,35])
 (.block 0 (.loop Mr)))
 (.seq (.seq (.reg [Qo 46 (.fld (.t 4) 5),
 Qo 47 (.ldl (.t 46) none),
 Qo 48 (.len (.t 47)),
 Qo 49 (.mv (.c (.d (.int .i64 0))))] [0,2,47,48,49])
 (.block 2 (.loop Ms)))
 (.seq (.reg [Qo 6 (.mv (.c (.d (.bool true))))] [6])
 .ret))))))
noncomputable def DP:Cx:=⟨Tryz.prog,53,Tryz.f53,61,[300028,300033,300040,300047,300055],[],[.t 6]⟩
theorem Bu:Good DP:=⟨Tryz.func53,by kernel_rfl⟩
theorem Ol:DP.rs=[.t 6]:=rfl
theorem JT (hl:args.length≤61) (h:Run DP K [.code JA] (As args) E σ):AT Tryz.prog 53 args σ K:=
 AX (cx:=DP) (code:=Tryz.f53.body.getD .skip) Bu (by kernel_rfl) Tryz.ntmps53 hl (AZ DP _ (BB JA) _ [] (by kernel_rfl)) h
def NX:C:=(.seq (.reg [Qo 2 (.mv (.c (.d (.bool false))))] [0])
 (.seq (.reg [Qm 3 0,
 Qo 4 (.call 107 [(.t 3),(.c (.d (.int .i64 2)))]),
 Qm 2 4] [2])
 .ret))
noncomputable def FV:Cx:=⟨Tryz.prog,101,Tryz.f101,5,[],[],[.t 2]⟩
theorem N3:Good FV:=⟨Tryz.func101,by kernel_rfl⟩
theorem Td:FV.rs=[.t 2]:=rfl
theorem UI (hl:args.length≤5) (h:Run FV K [.code NX] (As args) E σ):AT Tryz.prog 101 args σ K:=
 AX (cx:=FV) (code:=Tryz.f101.body.getD .skip) N3 (by kernel_rfl) Tryz.ntmps101 hl (AZ FV _ (BB NX) _ [] (by kernel_rfl)) h
def HJ:C:=(.seq (.reg [Qo 3 (.box (.t 1) true),
 Qo 4 (.mv (.c (.d (.bool false))))] [0,3])
 (.seq (.reg [Qm 5 0,
 Qo 6 (.mkf 150 [] [(.t 3)]),
 Qo 7 (.call 149 [(.t 5),(.t 6)]),
 Qo 8 (.un .not (.t 7)),
 Qm 4 8] [4])
 .ret))
noncomputable def C3:Cx:=⟨Tryz.prog,102,Tryz.f102,9,[3],[],[.t 4]⟩
theorem HR:Good C3:=⟨Tryz.func102,by kernel_rfl⟩
theorem M6:C3.rs=[.t 4]:=rfl
theorem Mw (hl:args.length≤9) (h:Run C3 K [.code HJ] (As args) E σ):AT Tryz.prog 102 args σ K:=
 AX (cx:=C3) (code:=Tryz.f102.body.getD .skip) HR (by kernel_rfl) Tryz.ntmps102 hl (AZ C3 _ (BB HJ) _ [] (by kernel_rfl)) h
def KC:C:=(.seq (.reg [Qo 1 (.box (.t 0) false),
 Qo 2 (.mv (.c (.d (.bool false))))] [1])
 (.seq (.reg [Qo 3 (.fld (.t 1) 0),
 Qo 4 (.ldl (.t 3) none),
 Qo 5 (.call 101 [(.t 4)]),
 Qm 6 5,
 ⟨some 7,.fld (.t 1) 1,some (6,true)⟩,
 ⟨some 8,.ldl (.t 7) none,some (6,true)⟩,
 ⟨some 9,.len (.t 8),some (6,true)⟩,
 ⟨some 10,.bin .leq (.t 9) (.c (.d (.int .i64 6))),some (6,true)⟩,
 Qo 11 (.pick (.t 6) (.t 10) (.c (.d (.bool false)))),
 Qm 12 11,
 ⟨some 13,.fld (.t 1) 1,some (12,true)⟩,
 ⟨some 14,.ldl (.t 13) none,some (12,true)⟩,
 ⟨some 15,.call 104 [(.t 14),(.c (.fn 105 [] []))],some (12,true)⟩,
 Qo 16 (.pick (.t 12) (.t 15) (.c (.d (.bool false)))),
 Qm 2 16] [2])
 .ret))
noncomputable def Dz:Cx:=⟨Tryz.prog,103,Tryz.f103,17,[300004,300008,300014],[],[.t 2]⟩
theorem KN:Good Dz:=⟨Tryz.func103,by kernel_rfl⟩
theorem JW:Dz.rs=[.t 2]:=rfl
theorem Q5 (hl:args.length≤17) (h:Run Dz K [.code KC] (As args) E σ):AT Tryz.prog 103 args σ K:=
 AX (cx:=Dz) (code:=Tryz.f103.body.getD .skip) KN (by kernel_rfl) Tryz.ntmps103 hl (AZ Dz _ (BB KC) _ [] (by kernel_rfl)) h
def Gr:C:=(.seq (.reg [Qo 3 (.box (.t 1) true),
 Qo 4 (.mv (.c (.d (.bool false))))] [0,3])
 (.seq (.reg [Qm 5 0,
 Qo 6 (.mkf 152 [] [(.t 3)]),
 Qo 7 (.call 151 [(.t 5),(.t 6)]),
 Qo 8 (.un .not (.t 7)),
 Qm 4 8] [4])
 .ret))
noncomputable def CT:Cx:=⟨Tryz.prog,104,Tryz.f104,9,[3],[],[.t 4]⟩
theorem Gv:Good CT:=⟨Tryz.func104,by kernel_rfl⟩
theorem MN:CT.rs=[.t 4]:=rfl
theorem M2 (hl:args.length≤9) (h:Run CT K [.code Gr] (As args) E σ):AT Tryz.prog 104 args σ K:=
 AX (cx:=CT) (code:=Tryz.f104.body.getD .skip) Gv (by kernel_rfl) Tryz.ntmps104 hl (AZ CT _ (BB Gr) _ [] (by kernel_rfl)) h
def IX:C:=(.seq (.reg [Qo 1 (.box (.t 0) false),
 Qo 2 (.mv (.c (.d (.bool false))))] [1])
 (.seq (.reg [Qo 3 (.ldl (.t 1) (some 3)),
 Qo 4 (.call 106 [(.t 3),(.c (.d (.int .i64 1)))]),
 Qm 2 4] [2])
 .ret))
noncomputable def DH:Cx:=⟨Tryz.prog,105,Tryz.f105,5,[300003],[],[.t 2]⟩
theorem I7:Good DH:=⟨Tryz.func105,by kernel_rfl⟩
theorem Nz:DH.rs=[.t 2]:=rfl
theorem Ob (hl:args.length≤5) (h:Run DH K [.code IX] (As args) E σ):AT Tryz.prog 105 args σ K:=
 AX (cx:=DH) (code:=Tryz.f105.body.getD .skip) I7 (by kernel_rfl) Tryz.ntmps105 hl (AZ DH _ (BB IX) _ [] (by kernel_rfl)) h
def Lq:C:=(.seq (.reg [Qo 2 (.box (.t 0) false),
 Qo 3 (.box (.t 1) true),
 Qo 4 (.mv (.c (.d (.bool false))))] [2,3])
 (.seq (.seq (.reg [Qo 7 (.ld (.t 3) none),
 Qo 8 (.bin .gtr (.t 7) (.c (.d (.int .i64 40))))] [2,3,8])
 (.cond (.t 8) (.seq (.reg [Qo 4 (.mv (.c (.d (.bool false))))] [4])
 .ret)
 .skip))
 (.seq (.reg [Qo 5 (.mv (.c (.d (.int .i64 0)))),
 Qo 6 (.mv (.c (.d (.int .i64 0))))] [2,3,5,6])
 (.seq (.seq (.reg [Qo 9 (.fld (.t 2) 0),
 Qo 10 (.ldl (.t 9) none)] [2,3,5,6,10])
 (.block 0 (.seq (.seq (.reg [Qo 12 (.bin .eql (.t 10) (.c (.d (.int .i64 1)))),
 Qm 11 12] [2,3,5,6,10,11])
 (.cond (.t 11) .skip
 (.seq (.reg [Qo 13 (.bin .eql (.t 10) (.c (.d (.int .i64 2)))),
 Qm 11 13] [2,3,5,6,10,11])
 (.cond (.t 11) .skip
 (.reg [Qo 14 (.bin .eql (.t 10) (.c (.d (.int .i64 3)))),
 Qm 11 14] [2,3,5,6,10,11])))))
 (.cond (.t 11) .skip
 (.seq (.reg [Qo 16 (.bin .eql (.t 10) (.c (.d (.int .i64 4)))),
 Qm 15 16] [2,3,5,6,10,15])
 (.cond (.t 15) (.seq (.reg [Qo 17 (.fld (.t 2) 1),
 Qo 18 (.ldl (.t 17) none),
 Qo 19 (.call 51 [(.t 18)]),
 Qo 20 (.un .not (.t 19))] [2,3,5,6,20])
 (.cond (.t 20) (.seq (.reg [Qo 4 (.mv (.c (.d (.bool false))))] [4])
 .ret)
 .skip))
 (.seq (.reg [Qo 22 (.bin .eql (.t 10) (.c (.d (.int .i64 5)))),
 Qm 21 22] [2,3,5,10,21])
 (.cond (.t 21) (.seq (.seq (.reg [Qo 23 (.fld (.t 2) 1),
 Qo 24 (.ldl (.t 23) none),
 Qo 25 (.call 101 [(.t 24)]),
 Qo 26 (.un .not (.t 25))] [2,3,5,26])
 (.cond (.t 26) (.seq (.reg [Qo 4 (.mv (.c (.d (.bool false))))] [4])
 .ret)
 .skip))
 (.reg [Qo 6 (.mv (.c (.d (.int .i64 6))))] [2,3,5,6]))
 (.seq (.reg [Qo 28 (.bin .eql (.t 10) (.c (.d (.int .i64 6)))),
 Qm 27 28] [2,3,10,27])
 (.cond (.t 27) (.reg [Qo 5 (.mv (.c (.d (.int .i64 2)))),
 Qo 6 (.mv (.c (.d (.int .i64 6))))] [2,3,5,6])
 (.seq (.seq (.reg [Qo 30 (.bin .eql (.t 10) (.c (.d (.int .i64 7)))),
 Qm 29 30] [2,3,10,29])
 (.cond (.t 29) .skip
 (.reg [Qo 31 (.bin .eql (.t 10) (.c (.d (.int .i64 8)))),
 Qm 29 31] [2,3,10,29])))
 (.cond (.t 29) (.reg [Qo 5 (.mv (.c (.d (.int .i64 1)))),
 Qo 6 (.mv (.c (.d (.int .i64 1))))] [2,3,5,6])
 (.seq (.reg [Qo 33 (.bin .eql (.t 10) (.c (.d (.int .i64 9)))),
 Qm 32 33] [2,3,32])
 (.cond (.t 32) (.reg [Qo 5 (.mv (.c (.d (.int .i64 1)))),
 Qo 6 (.mv (.c (.d (.int .i64 7))))] [2,3,5,6])
 (.seq (.reg [Qo 4 (.mv (.c (.d (.bool false))))] [4])
 .ret)))))))))))))))
 (.seq (.seq (.reg [Qo 34 (.fld (.t 2) 0),
 Qo 35 (.ldl (.t 34) none),
 Qo 36 (.bin .neq (.t 35) (.c (.d (.int .i64 4)))),
 Qm 37 36,
 ⟨some 38,.fld (.t 2) 0,some (37,true)⟩,
 ⟨some 39,.ldl (.t 38) none,some (37,true)⟩,
 ⟨some 40,.bin .neq (.t 39) (.c (.d (.int .i64 5))),some (37,true)⟩,
 Qo 41 (.pick (.t 37) (.t 40) (.c (.d (.bool false)))),
 Qm 42 41,
 ⟨some 43,.fld (.t 2) 1,some (42,true)⟩,
 ⟨some 44,.ldl (.t 43) none,some (42,true)⟩,
 ⟨some 45,.bin .neq (.t 44) (.c (.d (.str []))),some (42,true)⟩,
 Qo 46 (.pick (.t 42) (.t 45) (.c (.d (.bool false))))] [2,3,5,6,46])
 (.cond (.t 46) (.seq (.reg [Qo 4 (.mv (.c (.d (.bool false))))] [4])
 .ret)
 .skip))
 (.seq (.reg [Qo 47 (.fld (.t 2) 2),
 Qo 48 (.ldl (.t 47) none),
 Qo 49 (.len (.t 48)),
 Qm 50 5,
 Qo 51 (.bin .geq (.t 49) (.t 50)),
 Qm 52 51,
 ⟨some 53,.fld (.t 2) 2,some (52,true)⟩,
 ⟨some 54,.ldl (.t 53) none,some (52,true)⟩,
 ⟨some 55,.len (.t 54),some (52,true)⟩,
 ⟨some 56,.mv (.t 6),some (52,true)⟩,
 ⟨some 57,.bin .leq (.t 55) (.t 56),some (52,true)⟩,
 Qo 58 (.pick (.t 52) (.t 57) (.c (.d (.bool false)))),
 Qm 59 58,
 ⟨some 60,.fld (.t 2) 2,some (59,true)⟩,
 ⟨some 61,.ldl (.t 60) none,some (59,true)⟩,
 ⟨some 62,.mkf 153 [] [(.t 3)],some (59,true)⟩,
 ⟨some 63,.call 104 [(.t 61),(.t 62)],some (59,true)⟩,
 Qo 64 (.pick (.t 59) (.t 63) (.c (.d (.bool false)))),
 Qm 4 64] [4])
 .ret))))))
noncomputable def Eb:Cx:=⟨Tryz.prog,106,Tryz.f106,65,[3,300010,300018,300024,300035,300039,300044,300048,300054,300061],[],[.t 4]⟩
theorem Hc:Good Eb:=⟨Tryz.func106,by kernel_rfl⟩
theorem Rj:Eb.rs=[.t 4]:=rfl
theorem MF (hl:args.length≤65) (h:Run Eb K [.code Lq] (As args) E σ):AT Tryz.prog 106 args σ K:=
 AX (cx:=Eb) (code:=Tryz.f106.body.getD .skip) Hc (by kernel_rfl) Tryz.ntmps106 hl (AZ Eb _ (BB Lq) _ [] (by kernel_rfl)) h
def NW:C:=(.seq (.reg [Qo 4 (.mv (.c (.d (.bool false))))] [0,1])
 (.seq (.reg [Qm 9 0,
 Qo 10 (.call 21 [(.t 9)]),
 Qm 8 10,
 Qo 11 (.ext (.t 8) 0),
 Qo 12 (.ext (.t 8) 1),
 Qo 13 (.ext (.t 8) 2),
 Qm 5 11,
 Qm 6 12,
 Qm 7 13] [0,1,5,7])
 (.seq (.reg [Qm 14 7,
 Qo 15 (.bin .eql (.t 14) (.c (.d (.int .i64 0)))),
 Qm 16 15,
 ⟨some 17,.mv (.t 5),some (16,true)⟩,
 ⟨some 18,.len (.t 17),some (16,true)⟩,
 ⟨some 19,.bin .eql (.t 18) (.c (.d (.int .i64 2))),some (16,true)⟩,
 Qo 20 (.pick (.t 16) (.t 19) (.c (.d (.bool false)))),
 Qm 21 20,
 ⟨some 22,.mv (.t 5),some (21,true)⟩,
 ⟨some 23,.ix (.t 22) (.c (.d (.int .i64 0))) 3,some (21,true)⟩,
 ⟨some 24,.fld (.t 23) 0,some (21,true)⟩,
 ⟨some 25,.ld (.t 24) none,some (21,true)⟩,
 ⟨some 26,.mv (.t 1),some (21,true)⟩,
 ⟨some 27,.bin .eql (.t 25) (.t 26),some (21,true)⟩,
 Qo 28 (.pick (.t 21) (.t 27) (.c (.d (.bool false)))),
 Qm 29 28,
 ⟨some 30,.mv (.t 5),some (29,true)⟩,
 ⟨some 31,.ix (.t 30) (.c (.d (.int .i64 0))) 3,some (29,true)⟩,
 ⟨some 32,.fld (.t 31) 1,some (29,true)⟩,
 ⟨some 33,.ld (.t 32) none,some (29,true)⟩,
 ⟨some 34,.mv (.t 0),some (29,true)⟩,
 ⟨some 35,.bin .eql (.t 33) (.t 34),some (29,true)⟩,
 Qo 36 (.pick (.t 29) (.t 35) (.c (.d (.bool false)))),
 Qm 4 36] [4])
 .ret)))
noncomputable def FU:Cx:=⟨Tryz.prog,107,Tryz.f107,37,[],[],[.t 4]⟩
theorem FJ:Good FU:=⟨Tryz.func107,by kernel_rfl⟩
theorem Tc:FU.rs=[.t 4]:=rfl
theorem UH (hl:args.length≤37) (h:Run FU K [.code NW] (As args) E σ):AT Tryz.prog 107 args σ K:=
 AX (cx:=FU) (code:=Tryz.f107.body.getD .skip) FJ (by kernel_rfl) Tryz.ntmps107 hl (AZ FU _ (BB NW) _ [] (by kernel_rfl)) h
def Fi:C:=(.seq (.reg [Qo 4 (.mv (.c (.d (.bool false))))] [0,1])
 (.seq (.reg [Qm 5 0,
 Qm 6 1,
 Qo 7 (.call 154 [(.t 5),(.t 6)]),
 Qo 8 (.bin .geq (.t 7) (.c (.d (.int .i64 0)))),
 Qm 4 8] [4])
 .ret))
noncomputable def Bn:Cx:=⟨Tryz.prog,108,Tryz.f108,9,[],[],[.t 4]⟩
theorem Fo:Good Bn:=⟨Tryz.func108,by kernel_rfl⟩
theorem KZ:Bn.rs=[.t 4]:=rfl
theorem Ki (hl:args.length≤9) (h:Run Bn K [.code Fi] (As args) E σ):AT Tryz.prog 108 args σ K:=
 AX (cx:=Bn) (code:=Tryz.f108.body.getD .skip) Fo (by kernel_rfl) Tryz.ntmps108 hl (AZ Bn _ (BB Fi) _ [] (by kernel_rfl)) h
def Iz:C:=(.seq (.reg [Qo 3 (.mv (.c (.d (.bool false))))] [0,1])
 (.seq (.reg [Qo 4 (.ld (.t 1) none),
 Qm 5 0,
 Qo 6 (.ED (.t 4) [(.t 5)]),
 Qo 7 (.un .not (.t 6)),
 Qm 3 7] [3])
 .ret))
noncomputable def DO:Cx:=⟨Tryz.prog,109,Tryz.f109,8,[],[],[.t 3]⟩
theorem JM:Good DO:=⟨Tryz.func109,by kernel_rfl⟩
theorem Ok:DO.rs=[.t 3]:=rfl
theorem PZ (hl:args.length≤8) (h:Run DO K [.code Iz] (As args) E σ):AT Tryz.prog 109 args σ K:=
 AX (cx:=DO) (code:=Tryz.f109.body.getD .skip) JM (by kernel_rfl) Tryz.ntmps109 hl (AZ DO _ (BB Iz) _ [] (by kernel_rfl)) h
def Lp:C:=(.seq (.reg [Qo 1 (.box (.t 0) false),
 Qo 2 (.mv (.c (.d (.bool false))))] [1])
 (.seq (.reg [Qo 7 (.fld (.t 1) 4),
 Qo 8 (.ldl (.t 7) none),
 Qo 9 (.len (.t 8)),
 Qm 3 9] [1,3])
 (.seq (.reg [Qo 10 (.ldl (.t 1) (some 6)),
 Qo 4 (.al [(.d (.int .i64 0)),(.d (.str [])),(.d (.int .i64 0)),.AW,.AW,.AW] false),
 ⟨none,.st (.t 4) (.t 10) 6,none⟩] [1,3,4])
 (.seq (.seq (.reg [Qo 11 (.fld (.t 1) 0),
 Qo 12 (.ldl (.t 11) none)] [1,3,4,12])
 (.block 0 (.seq (.seq (.reg [Qo 14 (.bin .eql (.t 12) (.c (.d (.int .i64 1)))),
 Qm 13 14] [1,3,4,12,13])
 (.cond (.t 13) .skip
 (.seq (.reg [Qo 15 (.bin .eql (.t 12) (.c (.d (.int .i64 2)))),
 Qm 13 15] [1,3,4,12,13])
 (.cond (.t 13) .skip
 (.seq (.reg [Qo 16 (.bin .eql (.t 12) (.c (.d (.int .i64 3)))),
 Qm 13 16] [1,3,4,12,13])
 (.cond (.t 13) .skip
 (.seq (.reg [Qo 17 (.bin .eql (.t 12) (.c (.d (.int .i64 15)))),
 Qm 13 17] [1,3,4,12,13])
 (.cond (.t 13) .skip
 (.reg [Qo 18 (.bin .eql (.t 12) (.c (.d (.int .i64 4)))),
 Qm 13 18] [1,3,4,12,13])))))))))
 (.cond (.t 13) (.seq (.reg [Qm 19 3,
 Qo 20 (.bin .eql (.t 19) (.c (.d (.int .i64 0)))),
 Qm 21 20,
 ⟨some 22,.ldl (.t 1) (some 6),some (21,true)⟩,
 ⟨some 23,.call 155 [(.t 22)],some (21,true)⟩,
 Qo 24 (.pick (.t 21) (.t 23) (.c (.d (.bool false)))),
 Qm 2 24] [2])
 .ret)
 (.seq (.reg [Qo 26 (.bin .eql (.t 12) (.c (.d (.int .i64 5)))),
 Qm 25 26] [1,3,4,12,25])
 (.cond (.t 25) (.seq (.reg [Qm 27 3,
 Qo 28 (.bin .geq (.t 27) (.c (.d (.int .i64 2)))),
 Qm 29 28,
 ⟨some 30,.mv (.t 3),some (29,true)⟩,
 ⟨some 31,.bin .leq (.t 30) (.c (.d (.int .i64 6))),some (29,true)⟩,
 Qo 32 (.pick (.t 29) (.t 31) (.c (.d (.bool false)))),
 Qm 33 32,
 ⟨some 34,.ldl (.t 1) (some 6),some (33,true)⟩,
 ⟨some 35,.call 156 [(.t 34)],some (33,true)⟩,
 Qo 36 (.pick (.t 33) (.t 35) (.c (.d (.bool false)))),
 Qm 2 36] [2])
 .ret)
 (.seq (.reg [Qo 38 (.bin .eql (.t 12) (.c (.d (.int .i64 6)))),
 Qm 37 38] [1,3,4,12,37])
 (.cond (.t 37) (.seq (.reg [Qo 39 (.fld (.t 4) 1),
 ⟨none,.st (.t 39) (.c (.d (.str []))) 1,none⟩] [1,3,4])
 (.seq (.reg [Qm 40 3,
 Qo 41 (.bin .leq (.t 40) (.c (.d (.int .i64 6)))),
 Qm 42 41,
 ⟨some 43,.fld (.t 1) 1,some (42,true)⟩,
 ⟨some 44,.ldl (.t 43) none,some (42,true)⟩,
 ⟨some 45,.call 101 [(.t 44)],some (42,true)⟩,
 Qo 46 (.pick (.t 42) (.t 45) (.c (.d (.bool false)))),
 Qm 47 46,
 ⟨some 48,.ldl (.t 4) (some 6),some (47,true)⟩,
 ⟨some 49,.call 156 [(.t 48)],some (47,true)⟩,
 Qo 50 (.pick (.t 47) (.t 49) (.c (.d (.bool false)))),
 Qm 2 50] [2])
 .ret))
 (.seq (.seq (.reg [Qo 52 (.bin .eql (.t 12) (.c (.d (.int .i64 7)))),
 Qm 51 52] [1,3,4,12,51])
 (.cond (.t 51) .skip
 (.reg [Qo 53 (.bin .eql (.t 12) (.c (.d (.int .i64 17)))),
 Qm 51 53] [1,3,4,12,51])))
 (.cond (.t 51) (.seq (.reg [Qo 54 (.fld (.t 4) 1),
 ⟨none,.st (.t 54) (.c (.d (.str []))) 1,none⟩] [1,3,4])
 (.seq (.reg [Qm 55 3,
 Qo 56 (.bin .eql (.t 55) (.c (.d (.int .i64 2)))),
 Qm 57 56,
 ⟨some 58,.fld (.t 1) 1,some (57,true)⟩,
 ⟨some 59,.ldl (.t 58) none,some (57,true)⟩,
 ⟨some 60,.call 157 [(.t 59)],some (57,true)⟩,
 Qo 61 (.pick (.t 57) (.t 60) (.c (.d (.bool false)))),
 Qm 62 61,
 ⟨some 63,.ldl (.t 4) (some 6),some (62,true)⟩,
 ⟨some 64,.call 156 [(.t 63)],some (62,true)⟩,
 Qo 65 (.pick (.t 62) (.t 64) (.c (.d (.bool false)))),
 Qm 2 65] [2])
 .ret))
 (.seq (.reg [Qo 67 (.bin .eql (.t 12) (.c (.d (.int .i64 8)))),
 Qm 66 67] [1,3,4,12,66])
 (.cond (.t 66) (.seq (.reg [Qo 68 (.fld (.t 4) 3),
 ⟨none,.st (.t 68) (.c .AW) 1,none⟩] [1,3,4])
 (.seq (.reg [Qm 69 3,
 Qo 70 (.bin .eql (.t 69) (.c (.d (.int .i64 2)))),
 Qm 71 70,
 ⟨some 72,.fld (.t 1) 3,some (71,true)⟩,
 ⟨some 73,.ldl (.t 72) none,some (71,true)⟩,
 ⟨some 74,.len (.t 73),some (71,true)⟩,
 ⟨some 75,.bin .geq (.t 74) (.c (.d (.int .i64 2))),some (71,true)⟩,
 Qo 76 (.pick (.t 71) (.t 75) (.c (.d (.bool false)))),
 Qm 77 76,
 ⟨some 78,.fld (.t 1) 3,some (77,true)⟩,
 ⟨some 79,.ldl (.t 78) none,some (77,true)⟩,
 ⟨some 80,.len (.t 79),some (77,true)⟩,
 ⟨some 81,.bin .leq (.t 80) (.c (.d (.int .i64 6))),some (77,true)⟩,
 Qo 82 (.pick (.t 77) (.t 81) (.c (.d (.bool false)))),
 Qm 83 82,
 ⟨some 84,.fld (.t 1) 3,some (83,true)⟩,
 ⟨some 85,.ldl (.t 84) none,some (83,true)⟩,
 ⟨some 86,.call 52 [(.t 85),(.c (.fn 157 [] []))],some (83,true)⟩,
 Qo 87 (.pick (.t 83) (.t 86) (.c (.d (.bool false)))),
 Qm 88 87,
 ⟨some 89,.ldl (.t 4) (some 6),some (88,true)⟩,
 ⟨some 90,.call 156 [(.t 89)],some (88,true)⟩,
 Qo 91 (.pick (.t 88) (.t 90) (.c (.d (.bool false)))),
 Qm 2 91] [2])
 .ret))
 (.seq (.reg [Qo 93 (.bin .eql (.t 12) (.c (.d (.int .i64 9)))),
 Qm 92 93] [1,3,4,12,92])
 (.cond (.t 92) (.seq (.reg [Qm 94 3,
 Qo 95 (.bin .eql (.t 94) (.c (.d (.int .i64 3)))),
 Qm 96 95,
 ⟨some 97,.ldl (.t 1) (some 6),some (96,true)⟩,
 ⟨some 98,.call 156 [(.t 97)],some (96,true)⟩,
 Qo 99 (.pick (.t 96) (.t 98) (.c (.d (.bool false)))),
 Qm 2 99] [2])
 .ret)
 (.seq (.reg [Qo 101 (.bin .eql (.t 12) (.c (.d (.int .i64 10)))),
 Qm 100 101] [1,3,4,12,100])
 (.cond (.t 100) (.seq (.reg [Qo 102 (.fld (.t 4) 5),
 ⟨none,.st (.t 102) (.c .AW) 1,none⟩] [1,3,4])
 (.seq (.reg [Qm 103 3,
 Qo 104 (.bin .eql (.t 103) (.c (.d (.int .i64 1)))),
 Qm 105 104,
 ⟨some 106,.fld (.t 1) 5,some (105,true)⟩,
 ⟨some 107,.ldl (.t 106) none,some (105,true)⟩,
 ⟨some 108,.len (.t 107),some (105,true)⟩,
 ⟨some 109,.bin .geq (.t 108) (.c (.d (.int .i64 1))),some (105,true)⟩,
 Qo 110 (.pick (.t 105) (.t 109) (.c (.d (.bool false)))),
 Qm 111 110,
 ⟨some 112,.fld (.t 1) 5,some (111,true)⟩,
 ⟨some 113,.ldl (.t 112) none,some (111,true)⟩,
 ⟨some 114,.call 158 [(.t 113),(.c (.fn 159 [] []))],some (111,true)⟩,
 Qo 115 (.pick (.t 111) (.t 114) (.c (.d (.bool false)))),
 Qm 116 115,
 ⟨some 117,.ldl (.t 4) (some 6),some (116,true)⟩,
 ⟨some 118,.call 156 [(.t 117)],some (116,true)⟩,
 Qo 119 (.pick (.t 116) (.t 118) (.c (.d (.bool false)))),
 Qm 2 119] [2])
 .ret))
 (.seq (.reg [Qo 121 (.bin .eql (.t 12) (.c (.d (.int .i64 11)))),
 Qm 120 121] [1,3,4,12,120])
 (.cond (.t 120) (.seq (.reg [Qo 122 (.fld (.t 4) 3),
 ⟨none,.st (.t 122) (.c .AW) 1,none⟩] [1,3,4])
 (.seq (.reg [Qm 123 3,
 Qo 124 (.bin .eql (.t 123) (.c (.d (.int .i64 1)))),
 Qm 125 124,
 ⟨some 126,.fld (.t 1) 3,some (125,true)⟩,
 ⟨some 127,.ldl (.t 126) none,some (125,true)⟩,
 ⟨some 128,.len (.t 127),some (125,true)⟩,
 ⟨some 129,.bin .leq (.t 128) (.c (.d (.int .i64 6))),some (125,true)⟩,
 Qo 130 (.pick (.t 125) (.t 129) (.c (.d (.bool false)))),
 Qm 131 130,
 ⟨some 132,.fld (.t 1) 3,some (131,true)⟩,
 ⟨some 133,.ldl (.t 132) none,some (131,true)⟩,
 ⟨some 134,.call 52 [(.t 133),(.c (.fn 51 [] []))],some (131,true)⟩,
 Qo 135 (.pick (.t 131) (.t 134) (.c (.d (.bool false)))),
 Qm 136 135,
 ⟨some 137,.ldl (.t 4) (some 6),some (136,true)⟩,
 ⟨some 138,.call 156 [(.t 137)],some (136,true)⟩,
 Qo 139 (.pick (.t 136) (.t 138) (.c (.d (.bool false)))),
 Qm 2 139] [2])
 .ret))
 (.seq (.reg [Qo 141 (.bin .eql (.t 12) (.c (.d (.int .i64 12)))),
 Qm 140 141] [1,3,4,12,140])
 (.cond (.t 140) (.seq (.reg [Qm 142 3,
 Qo 143 (.bin .geq (.t 142) (.c (.d (.int .i64 1)))),
 Qm 144 143,
 ⟨some 145,.mv (.t 3),some (144,true)⟩,
 ⟨some 146,.bin .leq (.t 145) (.c (.d (.int .i64 7))),some (144,true)⟩,
 Qo 147 (.pick (.t 144) (.t 146) (.c (.d (.bool false)))),
 Qm 148 147,
 ⟨some 149,.ldl (.t 1) (some 6),some (148,true)⟩,
 ⟨some 150,.call 156 [(.t 149)],some (148,true)⟩,
 Qo 151 (.pick (.t 148) (.t 150) (.c (.d (.bool false)))),
 Qm 2 151] [2])
 .ret)
 (.seq (.reg [Qo 153 (.bin .eql (.t 12) (.c (.d (.int .i64 13)))),
 Qm 152 153] [1,3,4,12,152])
 (.cond (.t 152) (.seq (.reg [Qo 154 (.fld (.t 4) 2),
 ⟨none,.st (.t 154) (.c (.d (.int .i64 0))) 1,none⟩] [1,3,4])
 (.seq (.reg [Qm 155 3,
 Qo 156 (.bin .eql (.t 155) (.c (.d (.int .i64 2)))),
 Qm 157 156,
 ⟨some 158,.fld (.t 1) 2,some (157,true)⟩,
 ⟨some 159,.ldl (.t 158) none,some (157,true)⟩,
 ⟨some 160,.call 160 [(.t 159),(.c (.d (.int .i64 1))),(.c (.d (.int .i64 8)))],some (157,true)⟩,
 Qo 161 (.pick (.t 157) (.t 160) (.c (.d (.bool false)))),
 Qm 162 161,
 ⟨some 163,.ldl (.t 4) (some 6),some (162,true)⟩,
 ⟨some 164,.call 156 [(.t 163)],some (162,true)⟩,
 Qo 165 (.pick (.t 162) (.t 164) (.c (.d (.bool false)))),
 Qm 2 165] [2])
 .ret))
 (.seq (.reg [Qo 167 (.bin .eql (.t 12) (.c (.d (.int .i64 14)))),
 Qm 166 167] [1,3,4,12,166])
 (.cond (.t 166) (.seq (.reg [Qo 168 (.fld (.t 4) 2),
 ⟨none,.st (.t 168) (.c (.d (.int .i64 0))) 1,none⟩] [1,3,4])
 (.seq (.reg [Qo 170 (.fld (.t 1) 2),
 Qo 171 (.ldl (.t 170) none),
 Qo 172 (.call 147 [(.t 171)]),
 Qm 169 172,
 Qo 173 (.ext (.t 169) 0),
 Qo 174 (.ext (.t 169) 1),
 Qm 5 173,
 Qm 6 174] [3,4,6])
 (.seq (.reg [Qm 175 6,
 Qo 176 (.bin .gtr (.t 175) (.c (.d (.int .i64 0)))),
 Qm 177 176,
 ⟨some 178,.mv (.t 3),some (177,true)⟩,
 ⟨some 179,.mv (.t 6),some (177,true)⟩,
 ⟨some 180,.bin .eql (.t 178) (.t 179),some (177,true)⟩,
 Qo 181 (.pick (.t 177) (.t 180) (.c (.d (.bool false)))),
 Qm 182 181,
 ⟨some 183,.ldl (.t 4) (some 6),some (182,true)⟩,
 ⟨some 184,.call 156 [(.t 183)],some (182,true)⟩,
 Qo 185 (.pick (.t 182) (.t 184) (.c (.d (.bool false)))),
 Qm 2 185] [2])
 .ret)))
 (.seq (.reg [Qo 187 (.bin .eql (.t 12) (.c (.d (.int .i64 16)))),
 Qm 186 187] [1,3,186])
 (.cond (.t 186) (.seq (.reg [Qm 188 3,
 Qo 189 (.bin .eql (.t 188) (.c (.d (.int .i64 1)))),
 Qm 190 189,
 ⟨some 191,.ldl (.t 1) (some 6),some (190,true)⟩,
 ⟨some 192,.call 156 [(.t 191)],some (190,true)⟩,
 Qo 193 (.pick (.t 190) (.t 192) (.c (.d (.bool false)))),
 Qm 2 193] [2])
 .ret)
 .skip))))))))))))))))))))))))))
 (.seq (.reg [Qo 2 (.mv (.c (.d (.bool false))))] [2])
 .ret)))))
noncomputable def Ea:Cx:=⟨Tryz.prog,110,Tryz.f110,194,[300008,300010,300012,300022,300034,300044,300048,300059,300063,300073,300079,300085,300089,300097,300107,300113,300117,300127,300133,300137,300149,300159,300163,300171,300183,300191],[],[.t 2]⟩
theorem Hb:Good Ea:=⟨Tryz.func110,by kernel_rfl⟩
theorem Ri:Ea.rs=[.t 2]:=rfl
theorem Sc (hl:args.length≤194) (h:Run Ea K [.code Lp] (As args) E σ):AT Tryz.prog 110 args σ K:=
 AX (cx:=Ea) (code:=Tryz.f110.body.getD .skip) Hb (by kernel_rfl) Tryz.ntmps110 hl (AZ Ea _ (BB Lp) _ [] (by kernel_rfl)) h
def Ee:C:=(.seq (.reg [Qo 4 (.mv (.c (.d (.bool false))))] [0,1])
 (.seq (.reg [Qm 5 0,
 Qm 6 1,
 Qo 7 (.call 178 [(.t 5),(.t 6)]),
 Qo 8 (.bin .geq (.t 7) (.c (.d (.int .i64 0)))),
 Qm 4 8] [4])
 .ret))
noncomputable def BY:Cx:=⟨Tryz.prog,149,Tryz.f149,9,[],[],[.t 4]⟩
theorem Ef:Good BY:=⟨Tryz.func149,by kernel_rfl⟩
theorem Hg:BY.rs=[.t 4]:=rfl
theorem IC (hl:args.length≤9) (h:Run BY K [.code Ee] (As args) E σ):AT Tryz.prog 149 args σ K:=
 AX (cx:=BY) (code:=Tryz.f149.body.getD .skip) Ef (by kernel_rfl) Tryz.ntmps149 hl (AZ BY _ (BB Ee) _ [] (by kernel_rfl)) h
def GU:C:=(.seq (.reg [Qo 2 (.box (.t 0) false),
 Qo 3 (.mv (.c (.d (.bool false))))] [1,2])
 (.seq (.reg [Qo 4 (.ld (.t 1) none),
 Qo 5 (.ldl (.t 2) (some 2)),
 Qo 6 (.ED (.t 4) [(.t 5)]),
 Qo 7 (.un .not (.t 6)),
 Qm 3 7] [3])
 .ret))
noncomputable def CH:Cx:=⟨Tryz.prog,150,Tryz.f150,8,[300005],[],[.t 3]⟩
theorem G1:Good CH:=⟨Tryz.func150,by kernel_rfl⟩
theorem L7:CH.rs=[.t 3]:=rfl
theorem MB (hl:args.length≤8) (h:Run CH K [.code GU] (As args) E σ):AT Tryz.prog 150 args σ K:=
 AX (cx:=CH) (code:=Tryz.f150.body.getD .skip) G1 (by kernel_rfl) Tryz.ntmps150 hl (AZ CH _ (BB GU) _ [] (by kernel_rfl)) h
def E2:C:=(.seq (.reg [Qo 4 (.mv (.c (.d (.bool false))))] [0,1])
 (.seq (.reg [Qm 5 0,
 Qm 6 1,
 Qo 7 (.call 179 [(.t 5),(.t 6)]),
 Qo 8 (.bin .geq (.t 7) (.c (.d (.int .i64 0)))),
 Qm 4 8] [4])
 .ret))
noncomputable def BW:Cx:=⟨Tryz.prog,151,Tryz.f151,9,[],[],[.t 4]⟩
theorem E3:Good BW:=⟨Tryz.func151,by kernel_rfl⟩
theorem HW:BW.rs=[.t 4]:=rfl
theorem Hd (hl:args.length≤9) (h:Run BW K [.code E2] (As args) E σ):AT Tryz.prog 151 args σ K:=
 AX (cx:=BW) (code:=Tryz.f151.body.getD .skip) E3 (by kernel_rfl) Tryz.ntmps151 hl (AZ BW _ (BB E2) _ [] (by kernel_rfl)) h
def GF:C:=(.seq (.reg [Qo 2 (.box (.t 0) false),
 Qo 3 (.mv (.c (.d (.bool false))))] [1,2])
 (.seq (.reg [Qo 4 (.ld (.t 1) none),
 Qo 5 (.ldl (.t 2) (some 3)),
 Qo 6 (.ED (.t 4) [(.t 5)]),
 Qo 7 (.un .not (.t 6)),
 Qm 3 7] [3])
 .ret))
noncomputable def Bx:Cx:=⟨Tryz.prog,152,Tryz.f152,8,[300005],[],[.t 3]⟩
theorem GI:Good Bx:=⟨Tryz.func152,by kernel_rfl⟩
theorem Ko:Bx.rs=[.t 3]:=rfl
theorem LY (hl:args.length≤8) (h:Run Bx K [.code GF] (As args) E σ):AT Tryz.prog 152 args σ K:=
 AX (cx:=Bx) (code:=Tryz.f152.body.getD .skip) GI (by kernel_rfl) Tryz.ntmps152 hl (AZ Bx _ (BB GF) _ [] (by kernel_rfl)) h
def KD:C:=(.seq (.reg [Qo 2 (.box (.t 0) false),
 Qo 3 (.mv (.c (.d (.bool false))))] [1,2])
 (.seq (.reg [Qo 4 (.ldl (.t 2) (some 3)),
 Qo 5 (.ld (.t 1) none),
 Qo 6 (.bin .add (.t 5) (.c (.d (.int .i64 1)))),
 Qo 7 (.call 106 [(.t 4),(.t 6)]),
 Qm 3 7] [3])
 .ret))
noncomputable def EA:Cx:=⟨Tryz.prog,153,Tryz.f153,8,[300004],[],[.t 3]⟩
theorem KO:Good EA:=⟨Tryz.func153,by kernel_rfl⟩
theorem Pv:EA.rs=[.t 3]:=rfl
theorem Q6 (hl:args.length≤8) (h:Run EA K [.code KD] (As args) E σ):AT Tryz.prog 153 args σ K:=
 AX (cx:=EA) (code:=Tryz.f153.body.getD .skip) KO (by kernel_rfl) Tryz.ntmps153 hl (AZ EA _ (BB KD) _ [] (by kernel_rfl)) h
def Tv:C:=(.seq (.seq (.reg [Qm 26 6,
 Qm 27 0,
 Qo 28 (.Pw (.t 27)),
 Qo 29 (.bin .lss (.t 26) (.t 28))] [0,5,6,29])
 (.cond (.t 29) .skip
 (.exit 2)))
 (.seq (.block 3 (.seq (.reg [Qm 32 0,
 Qm 33 6,
 Qo 34 (.Wl (.t 32) (.t 33)),
 Qo 35 (.bin .eql (.t 34) (.c (.d (.int .u8 10))))] [0,5,6,35])
 (.cond (.t 35) (.exit 1)
 .skip)))
 (.reg [Qm 30 6,
 Qo 31 (.bin .add (.t 30) (.c (.d (.int .i64 1)))),
 Qm 6 31] [0,5,6])))
def Tw:C:=(.seq (.seq (.reg [Qm 12 6,
 Qm 13 0,
 Qo 14 (.Pw (.t 13)),
 Qo 15 (.bin .lss (.t 12) (.t 14))] [0,5,6,15])
 (.cond (.t 15) .skip
 (.exit 0)))
 (.block 1 (.seq (.seq (.reg [Qm 16 0,
 Qm 17 6,
 Qo 18 (.Wl (.t 16) (.t 17)),
 Qo 19 (.call 58 [(.t 18)])] [0,5,6,19])
 (.cond (.t 19) (.seq (.reg [Qm 20 6,
 Qo 21 (.bin .add (.t 20) (.c (.d (.int .i64 1)))),
 Qm 6 21] [0,5,6])
 (.exit 1))
 .skip))
 (.seq (.seq (.reg [Qm 22 0,
 Qm 23 6,
 Qo 24 (.Wl (.t 22) (.t 23)),
 Qo 25 (.bin .eql (.t 24) (.c (.d (.int .u8 35))))] [0,5,6,25])
 (.cond (.t 25) (.seq (.block 2 (.loop Tv))
 (.exit 0))
 .skip))
 (.seq (.reg [Qm 37 0,
 Qm 38 6,
 Qo 39 (.call 59 [(.t 37),(.t 38)]),
 Qm 36 39,
 Qo 40 (.ext (.t 36) 0),
 Qo 41 (.ext (.t 36) 1),
 Qo 7 (.al [(.d (.int .i64 0)),(.d (.str [])),(.d (.int .i64 0))] false),
 ⟨none,.st (.t 7) (.t 40) 3,none⟩,
 Qm 8 41] [0,5,6,7,8])
 (.seq (.seq (.reg [Qm 42 8,
 Qo 43 (.bin .neq (.t 42) (.c (.d (.int .i64 0))))] [0,5,6,7,8,43])
 (.cond (.t 43) (.seq (.reg [Qm 44 6,
 Qm 45 8,
 Qo 2 (.mv (.c .AW)),
 Qm 3 44,
 Qm 4 45] [2,3,4])
 .ret)
 .skip))
 (.seq (.reg [Qm 46 5,
 Qo 47 (.ldl (.t 7) (some 3)),
 Qo 48 (.bsl 3 1 [(.d (.int .i64 0)),(.d (.str [])),(.d (.int .i64 0))] [(0,3,(.t 47))]),
 Qo 49 (.app 38 3 32 (.t 46) (.t 48)),
 Qm 5 49] [0,5,6,7])
 (.reg [Qm 50 6,
 Qo 51 (.fld (.t 7) 1),
 Qo 52 (.ldl (.t 51) none),
 Qo 53 (.Pw (.t 52)),
 Qo 54 (.bin .add (.t 50) (.t 53)),
 Qm 6 54] [0,5,6]))))))))
def Ry:C:=(.seq (.reg [Qo 2 (.mv (.c .AW)),
 Qo 3 (.mv (.c (.d (.int .i64 0)))),
 Qo 4 (.mv (.c (.d (.int .i64 0))))] [0])
 (.scope (.seq (.seq (.reg [Qm 9 0,
 Qo 10 (.Pw (.t 9)),
 Qo 11 (.bin .gtr (.t 10) (.c (.d (.int .i64 16384))))] [0,11])
 (.cond (.t 11) (.seq (.reg [Qo 2 (.mv (.c .AW)),
 Qo 3 (.mv (.c (.d (.int .i64 0)))),
 Qo 4 (.mv (.c (.d (.int .i64 9))))] [2,3,4])
 .ret)
 .skip))
 (.seq (.reg [Qo 5 (.mv (.c .AW))] [0,5])
 (.seq (.reg [Qo 6 (.mv (.c (.d (.int .i64 0))))] [0,5,6])
 (.seq .skip
 (.seq (.block 0 (.loop Tw))
 (.seq (.reg [Qm 55 5,
 Qm 56 0,
 Qo 57 (.Pw (.t 56)),
 Qo 58 (.bld [(.d (.int .i64 0)),(.d (.str [])),(.d (.int .i64 0))] [(0,1,(.c (.d (.int .i64 6)))),(2,1,(.t 57))]),
 Qo 59 (.bsl 3 1 [(.d (.int .i64 0)),(.d (.str [])),(.d (.int .i64 0))] [(0,3,(.t 58))]),
 Qo 60 (.app 38 3 32 (.t 55) (.t 59)),
 Qm 2 60,
 Qo 3 (.mv (.c (.d (.int .i64 0)))),
 Qo 4 (.mv (.c (.d (.int .i64 0))))] [2,3,4])
 .ret))))))))
noncomputable def H3:Cx:=⟨Tryz.prog,21,Tryz.f21,61,[300047,300052],[],[.t 2,.t 3,.t 4]⟩
theorem Br:Good H3:=⟨Tryz.func21,by kernel_rfl⟩
theorem W8:H3.rs=[.t 2,.t 3,.t 4]:=rfl
theorem X1 (hl:args.length≤61) (h:Run H3 K [.code Ry] (As args) E σ):AT Tryz.prog 21 args σ K:=
 AX (cx:=H3) (code:=Tryz.f21.body.getD .skip) Br (by kernel_rfl) Tryz.ntmps21 hl (AZ H3 _ (BB Ry) _ [] (by kernel_rfl)) h
def Kd:C:=(.seq (.reg [Qo 9 (.bin .lss (.t 8) (.t 7))] [0,1,7,8,9])
 (.seq (.cond (.t 9) .skip
 (.exit 0))
 (.seq (.block 1 (.seq (.reg [Qm 10 8,
 Qm 5 10] [0,1,5,7,8])
 (.seq (.reg [Qm 11 1,
 Qm 12 0,
 Qm 13 5,
 Qo 14 (.ix (.t 12) (.t 13) 1),
 Qo 15 (.ld (.t 14) none),
 Qo 16 (.ED (.t 11) [(.t 15)])] [0,1,5,7,8,16])
 (.cond (.t 16) (.seq (.reg [Qm 17 5,
 Qm 4 17] [4])
 .ret)
 .skip))))
 (.reg [Qo 18 (.bin .add (.t 8) (.c (.d (.int .i64 1)))),
 Qm 8 18] [0,1,7,8]))))
def Gq:C:=(.seq (.reg [Qo 4 (.mv (.c (.d (.int .i64 0))))] [0,1])
 (.seq (.seq (.reg [Qm 6 0,
 Qo 7 (.len (.t 6)),
 Qo 8 (.mv (.c (.d (.int .i64 0))))] [0,1,7,8])
 (.block 0 (.loop Kd)))
 (.seq (.reg [Qo 4 (.mv (.c (.d (.int .i64 (-1)))))] [4])
 .ret)))
noncomputable def CS:Cx:=⟨Tryz.prog,154,Tryz.f154,19,[],[],[.t 4]⟩
theorem Eh:Good CS:=⟨Tryz.func154,by kernel_rfl⟩
theorem MM:CS.rs=[.t 4]:=rfl
theorem M1 (hl:args.length≤19) (h:Run CS K [.code Gq] (As args) E σ):AT Tryz.prog 154 args σ K:=
 AX (cx:=CS) (code:=Tryz.f154.body.getD .skip) Eh (by kernel_rfl) Tryz.ntmps154 hl (AZ CS _ (BB Gq) _ [] (by kernel_rfl)) h
def Lo:C:=(.seq (.reg [Qo 1 (.box (.t 0) false),
 Qo 2 (.mv (.c (.d (.bool false))))] [1])
 (.seq (.reg [Qo 6 (.ldl (.t 1) (some 6)),
 Qo 3 (.al [(.d (.int .i64 0)),(.d (.str [])),(.d (.int .i64 0)),.AW,.AW,.AW] false),
 ⟨none,.st (.t 3) (.t 6) 6,none⟩] [1,3])
 (.seq (.seq (.reg [Qo 7 (.fld (.t 1) 0),
 Qo 8 (.ldl (.t 7) none)] [1,3,8])
 (.block 0 (.seq (.reg [Qo 10 (.bin .eql (.t 8) (.c (.d (.int .i64 1)))),
 Qm 9 10] [1,3,8,9])
 (.cond (.t 9) (.seq (.reg [Qo 11 (.ldl (.t 1) (some 6)),
 Qo 12 (.call 156 [(.t 11)]),
 Qm 2 12] [2])
 .ret)
 (.seq (.reg [Qo 14 (.bin .eql (.t 8) (.c (.d (.int .i64 4)))),
 Qm 13 14] [1,3,13])
 (.cond (.t 13) (.seq (.reg [Qo 15 (.fld (.t 3) 1),
 ⟨none,.st (.t 15) (.c (.d (.str []))) 1,none⟩] [1,3])
 (.seq (.reg [Qo 16 (.fld (.t 1) 1),
 Qo 17 (.ldl (.t 16) none),
 Qo 18 (.call 51 [(.t 17)]),
 Qm 19 18,
 ⟨some 20,.ldl (.t 3) (some 6),some (19,true)⟩,
 ⟨some 21,.call 156 [(.t 20)],some (19,true)⟩,
 Qo 22 (.pick (.t 19) (.t 21) (.c (.d (.bool false)))),
 Qm 2 22] [2])
 .ret))
 .skip))))))
 (.seq (.reg [Qo 23 (.fld (.t 3) 2),
 ⟨none,.st (.t 23) (.c (.d (.int .i64 0))) 1,none⟩] [1,3])
 (.seq (.reg [Qo 4 (.mv (.c (.d (.int .i64 (-1000000))))),
 Qo 5 (.mv (.c (.d (.int .i64 1000000))))] [1,3,4,5])
 (.seq (.seq (.reg [Qo 24 (.fld (.t 1) 0),
 Qo 25 (.ldl (.t 24) none)] [1,3,4,5,25])
 (.block 1 (.seq (.reg [Qo 27 (.bin .eql (.t 25) (.c (.d (.int .i64 2)))),
 Qm 26 27] [1,3,4,5,25,26])
 (.cond (.t 26) (.reg [Qo 4 (.mv (.c (.d (.int .i64 0)))),
 Qo 5 (.mv (.c (.d (.int .i64 1))))] [1,3,4,5])
 (.seq (.reg [Qo 29 (.bin .eql (.t 25) (.c (.d (.int .i64 15)))),
 Qm 28 29] [1,3,4,5,28])
 (.cond (.t 28) (.reg [Qo 4 (.mv (.c (.d (.int .i64 (-1000))))),
 Qo 5 (.mv (.c (.d (.int .i64 1000))))] [1,3,4,5])
 .skip))))))
 (.seq (.reg [Qo 30 (.fld (.t 1) 2),
 Qo 31 (.ldl (.t 30) none),
 Qm 32 4,
 Qm 33 5,
 Qo 34 (.call 160 [(.t 31),(.t 32),(.t 33)]),
 Qm 35 34,
 ⟨some 36,.ldl (.t 3) (some 6),some (35,true)⟩,
 ⟨some 37,.call 156 [(.t 36)],some (35,true)⟩,
 Qo 38 (.pick (.t 35) (.t 37) (.c (.d (.bool false)))),
 Qm 2 38] [2])
 .ret)))))))
noncomputable def E9:Cx:=⟨Tryz.prog,155,Tryz.f155,39,[300006,300008,300011,300017,300020,300025,300031,300036],[],[.t 2]⟩
theorem D6:Good E9:=⟨Tryz.func155,by kernel_rfl⟩
theorem Rh:E9.rs=[.t 2]:=rfl
theorem Sb (hl:args.length≤39) (h:Run E9 K [.code Lo] (As args) E σ):AT Tryz.prog 155 args σ K:=
 AX (cx:=E9) (code:=Tryz.f155.body.getD .skip) D6 (by kernel_rfl) Tryz.ntmps155 hl (AZ E9 _ (BB Lo) _ [] (by kernel_rfl)) h
def QH:C:=(.seq (.reg [Qo 1 (.box (.t 0) false),
 Qo 2 (.mv (.c (.d (.bool false))))] [1])
 (.seq (.reg [Qo 3 (.fld (.t 1) 1),
 Qo 4 (.ldl (.t 3) none),
 Qo 5 (.bin .eql (.t 4) (.c (.d (.str [])))),
 Qm 6 5,
 ⟨some 7,.fld (.t 1) 2,some (6,true)⟩,
 ⟨some 8,.ldl (.t 7) none,some (6,true)⟩,
 ⟨some 9,.bin .eql (.t 8) (.c (.d (.int .i64 0))),some (6,true)⟩,
 Qo 10 (.pick (.t 6) (.t 9) (.c (.d (.bool false)))),
 Qm 11 10,
 ⟨some 12,.fld (.t 1) 3,some (11,true)⟩,
 ⟨some 13,.ldl (.t 12) none,some (11,true)⟩,
 ⟨some 14,.len (.t 13),some (11,true)⟩,
 ⟨some 15,.bin .eql (.t 14) (.c (.d (.int .i64 0))),some (11,true)⟩,
 Qo 16 (.pick (.t 11) (.t 15) (.c (.d (.bool false)))),
 Qm 17 16,
 ⟨some 18,.fld (.t 1) 5,some (17,true)⟩,
 ⟨some 19,.ldl (.t 18) none,some (17,true)⟩,
 ⟨some 20,.len (.t 19),some (17,true)⟩,
 ⟨some 21,.bin .eql (.t 20) (.c (.d (.int .i64 0))),some (17,true)⟩,
 Qo 22 (.pick (.t 17) (.t 21) (.c (.d (.bool false)))),
 Qm 2 22] [2])
 .ret))
noncomputable def Gj:Cx:=⟨Tryz.prog,156,Tryz.f156,23,[300004,300008,300013,300019],[],[.t 2]⟩
theorem QN:Good Gj:=⟨Tryz.func156,by kernel_rfl⟩
theorem VM:Gj.rs=[.t 2]:=rfl
theorem WE (hl:args.length≤23) (h:Run Gj K [.code QH] (As args) E σ):AT Tryz.prog 156 args σ K:=
 AX (cx:=Gj) (code:=Tryz.f156.body.getD .skip) QN (by kernel_rfl) Tryz.ntmps156 hl (AZ Gj _ (BB QH) _ [] (by kernel_rfl)) h
def PH:C:=(.seq (.reg [Qo 2 (.mv (.c (.d (.bool false))))] [0])
 (.seq (.reg [Qm 3 0,
 Qo 4 (.bin .eql (.t 3) (.c (.d (.str [])))),
 Qm 5 4,
 ⟨some 6,.mv (.t 0),some (5,false)⟩,
 ⟨some 7,.call 51 [(.t 6)],some (5,false)⟩,
 Qo 8 (.pick (.t 5) (.c (.d (.bool true))) (.t 7)),
 Qm 2 8] [2])
 .ret))
noncomputable def Fu:Cx:=⟨Tryz.prog,157,Tryz.f157,9,[],[],[.t 2]⟩
theorem Kh:Good Fu:=⟨Tryz.func157,by kernel_rfl⟩
theorem U3:Fu.rs=[.t 2]:=rfl
theorem VD (hl:args.length≤9) (h:Run Fu K [.code PH] (As args) E σ):AT Tryz.prog 157 args σ K:=
 AX (cx:=Fu) (code:=Tryz.f157.body.getD .skip) Kh (by kernel_rfl) Tryz.ntmps157 hl (AZ Fu _ (BB PH) _ [] (by kernel_rfl)) h
def Jn:C:=(.seq (.reg [Qo 3 (.box (.t 1) true),
 Qo 4 (.mv (.c (.d (.bool false))))] [0,3])
 (.seq (.reg [Qm 5 0,
 Qo 6 (.mkf 181 [] [(.t 3)]),
 Qo 7 (.call 180 [(.t 5),(.t 6)]),
 Qo 8 (.un .not (.t 7)),
 Qm 4 8] [4])
 .ret))
noncomputable def Dl:Cx:=⟨Tryz.prog,158,Tryz.f158,9,[3],[],[.t 4]⟩
theorem KH:Good Dl:=⟨Tryz.func158,by kernel_rfl⟩
theorem Pf:Dl.rs=[.t 4]:=rfl
theorem QR (hl:args.length≤9) (h:Run Dl K [.code Jn] (As args) E σ):AT Tryz.prog 158 args σ K:=
 AX (cx:=Dl) (code:=Tryz.f158.body.getD .skip) KH (by kernel_rfl) Tryz.ntmps158 hl (AZ Dl _ (BB Jn) _ [] (by kernel_rfl)) h
def Mh:C:=(.seq (.reg [Qo 1 (.box (.t 0) false),
 Qo 2 (.mv (.c (.d (.bool false))))] [1])
 (.seq (.reg [Qo 3 (.fld (.t 1) 0),
 Qo 4 (.ldl (.t 3) none),
 Qo 5 (.call 101 [(.t 4)]),
 Qm 6 5,
 ⟨some 7,.fld (.t 1) 1,some (6,true)⟩,
 ⟨some 8,.ldl (.t 7) none,some (6,true)⟩,
 ⟨some 9,.len (.t 8),some (6,true)⟩,
 ⟨some 10,.bin .leq (.t 9) (.c (.d (.int .i64 6))),some (6,true)⟩,
 Qo 11 (.pick (.t 6) (.t 10) (.c (.d (.bool false)))),
 Qm 12 11,
 ⟨some 13,.fld (.t 1) 1,some (12,true)⟩,
 ⟨some 14,.ldl (.t 13) none,some (12,true)⟩,
 ⟨some 15,.call 52 [(.t 14),(.c (.fn 157 [] []))],some (12,true)⟩,
 Qo 16 (.pick (.t 12) (.t 15) (.c (.d (.bool false)))),
 Qm 2 16] [2])
 .ret))
noncomputable def Ep:Cx:=⟨Tryz.prog,159,Tryz.f159,17,[300004,300008,300014],[],[.t 2]⟩
theorem GL:Good Ep:=⟨Tryz.func159,by kernel_rfl⟩
theorem Sk:Ep.rs=[.t 2]:=rfl
theorem TT (hl:args.length≤17) (h:Run Ep K [.code Mh] (As args) E σ):AT Tryz.prog 159 args σ K:=
 AX (cx:=Ep) (code:=Tryz.f159.body.getD .skip) GL (by kernel_rfl) Tryz.ntmps159 hl (AZ Ep _ (BB Mh) _ [] (by kernel_rfl)) h
def NV:C:=(.seq (.reg [Qo 6 (.mv (.c (.d (.bool false))))] [0,1,2])
 (.seq (.reg [Qm 7 1,
 Qm 8 0,
 Qo 9 (.bin .leq (.t 7) (.t 8)),
 Qm 10 9,
 ⟨some 11,.mv (.t 0),some (10,true)⟩,
 ⟨some 12,.mv (.t 2),some (10,true)⟩,
 ⟨some 13,.bin .leq (.t 11) (.t 12),some (10,true)⟩,
 Qo 14 (.pick (.t 10) (.t 13) (.c (.d (.bool false)))),
 Qm 6 14] [6])
 .ret))
noncomputable def FT:Cx:=⟨Tryz.prog,160,Tryz.f160,15,[],[],[.t 6]⟩
theorem N2:Good FT:=⟨Tryz.func160,by kernel_rfl⟩
theorem Tb:FT.rs=[.t 6]:=rfl
theorem UG (hl:args.length≤15) (h:Run FT K [.code NV] (As args) E σ):AT Tryz.prog 160 args σ K:=
 AX (cx:=FT) (code:=Tryz.f160.body.getD .skip) N2 (by kernel_rfl) Tryz.ntmps160 hl (AZ FT _ (BB NV) _ [] (by kernel_rfl)) h
def Ll:C:=(.seq (.reg [Qo 2 (.mv (.c (.d (.str [])))),
 Qo 3 (.mv (.c (.d (.int .i64 0))))] [0])
 (.seq (.seq (.reg [Qm 4 0] [4])
 (.block 0 (.seq (.reg [Qo 6 (.bin .eql (.t 4) (.c (.d (.int .i64 1)))),
 Qm 5 6] [4,5])
 (.cond (.t 5) (.seq (.reg [Qo 2 (.mv (.c (.d (.str [110,101,119])))),
 Qo 3 (.mv (.c (.d (.int .i64 2))))] [2,3])
 .ret)
 (.seq (.reg [Qo 8 (.bin .eql (.t 4) (.c (.d (.int .i64 2)))),
 Qm 7 8] [4,7])
 (.cond (.t 7) (.seq (.reg [Qo 2 (.mv (.c (.d (.str [103,101,116])))),
 Qo 3 (.mv (.c (.d (.int .i64 2))))] [2,3])
 .ret)
 (.seq (.reg [Qo 10 (.bin .eql (.t 4) (.c (.d (.int .i64 3)))),
 Qm 9 10] [4,9])
 (.cond (.t 9) (.seq (.reg [Qo 2 (.mv (.c (.d (.str [115,101,116])))),
 Qo 3 (.mv (.c (.d (.int .i64 3))))] [2,3])
 .ret)
 (.seq (.reg [Qo 12 (.bin .eql (.t 4) (.c (.d (.int .i64 4)))),
 Qm 11 12] [4,11])
 (.cond (.t 11) (.seq (.reg [Qo 2 (.mv (.c (.d (.str [108,101,110])))),
 Qo 3 (.mv (.c (.d (.int .i64 1))))] [2,3])
 .ret)
 (.seq (.reg [Qo 14 (.bin .eql (.t 4) (.c (.d (.int .i64 5)))),
 Qm 13 14] [4,13])
 (.cond (.t 13) (.seq (.reg [Qo 2 (.mv (.c (.d (.str [114,101,102])))),
 Qo 3 (.mv (.c (.d (.int .i64 1))))] [2,3])
 .ret)
 (.seq (.reg [Qo 16 (.bin .eql (.t 4) (.c (.d (.int .i64 6)))),
 Qm 15 16] [4,15])
 (.cond (.t 15) (.seq (.reg [Qo 2 (.mv (.c (.d (.str [114,101,97,100])))),
 Qo 3 (.mv (.c (.d (.int .i64 1))))] [2,3])
 .ret)
 (.seq (.reg [Qo 18 (.bin .eql (.t 4) (.c (.d (.int .i64 7)))),
 Qm 17 18] [17])
 (.cond (.t 17) (.seq (.reg [Qo 2 (.mv (.c (.d (.str [119,114,105,116,101])))),
 Qo 3 (.mv (.c (.d (.int .i64 2))))] [2,3])
 .ret)
 .skip))))))))))))))))
 (.seq (.reg [Qo 2 (.mv (.c (.d (.str [])))),
 Qo 3 (.mv (.c (.d (.int .i64 0))))] [2,3])
 .ret)))
noncomputable def E7:Cx:=⟨Tryz.prog,147,Tryz.f147,19,[],[],[.t 2,.t 3]⟩
theorem Lw:Good E7:=⟨Tryz.func147,by kernel_rfl⟩
theorem Rg:E7.rs=[.t 2,.t 3]:=rfl
theorem S9 (hl:args.length≤19) (h:Run E7 K [.code Ll] (As args) E σ):AT Tryz.prog 147 args σ K:=
 AX (cx:=E7) (code:=Tryz.f147.body.getD .skip) Lw (by kernel_rfl) Tryz.ntmps147 hl (AZ E7 _ (BB Ll) _ [] (by kernel_rfl)) h
def IA:C:=(.seq (.reg [Qo 9 (.bin .lss (.t 8) (.t 7))] [0,1,7,8,9])
 (.seq (.cond (.t 9) .skip
 (.exit 0))
 (.seq (.block 1 (.seq (.reg [Qm 10 8,
 Qm 5 10] [0,1,5,7,8])
 (.seq (.reg [Qm 11 1,
 Qm 12 0,
 Qm 13 5,
 Qo 14 (.ix (.t 12) (.t 13) 2),
 Qo 15 (.ld (.t 14) (some 2)),
 Qo 16 (.ED (.t 11) [(.t 15)])] [0,1,5,7,8,16])
 (.cond (.t 16) (.seq (.reg [Qm 17 5,
 Qm 4 17] [4])
 .ret)
 .skip))))
 (.reg [Qo 18 (.bin .add (.t 8) (.c (.d (.int .i64 1)))),
 Qm 8 18] [0,1,7,8]))))
def FC:C:=(.seq (.reg [Qo 4 (.mv (.c (.d (.int .i64 0))))] [0,1])
 (.seq (.seq (.reg [Qm 6 0,
 Qo 7 (.len (.t 6)),
 Qo 8 (.mv (.c (.d (.int .i64 0))))] [0,1,7,8])
 (.block 0 (.loop IA)))
 (.seq (.reg [Qo 4 (.mv (.c (.d (.int .i64 (-1)))))] [4])
 .ret)))
noncomputable def B9:Cx:=⟨Tryz.prog,178,Tryz.f178,19,[],[],[.t 4]⟩
theorem D4:Good B9:=⟨Tryz.func178,by kernel_rfl⟩
theorem Iu:B9.rs=[.t 4]:=rfl
theorem J2 (hl:args.length≤19) (h:Run B9 K [.code FC] (As args) E σ):AT Tryz.prog 178 args σ K:=
 AX (cx:=B9) (code:=Tryz.f178.body.getD .skip) D4 (by kernel_rfl) Tryz.ntmps178 hl (AZ B9 _ (BB FC) _ [] (by kernel_rfl)) h
def H9:C:=(.seq (.reg [Qo 9 (.bin .lss (.t 8) (.t 7))] [0,1,7,8,9])
 (.seq (.cond (.t 9) .skip
 (.exit 0))
 (.seq (.block 1 (.seq (.reg [Qm 10 8,
 Qm 5 10] [0,1,5,7,8])
 (.seq (.reg [Qm 11 1,
 Qm 12 0,
 Qm 13 5,
 Qo 14 (.ix (.t 12) (.t 13) 3),
 Qo 15 (.ld (.t 14) (some 3)),
 Qo 16 (.ED (.t 11) [(.t 15)])] [0,1,5,7,8,16])
 (.cond (.t 16) (.seq (.reg [Qm 17 5,
 Qm 4 17] [4])
 .ret)
 .skip))))
 (.reg [Qo 18 (.bin .add (.t 8) (.c (.d (.int .i64 1)))),
 Qm 8 18] [0,1,7,8]))))
def Ew:C:=(.seq (.reg [Qo 4 (.mv (.c (.d (.int .i64 0))))] [0,1])
 (.seq (.seq (.reg [Qm 6 0,
 Qo 7 (.len (.t 6)),
 Qo 8 (.mv (.c (.d (.int .i64 0))))] [0,1,7,8])
 (.block 0 (.loop H9)))
 (.seq (.reg [Qo 4 (.mv (.c (.d (.int .i64 (-1)))))] [4])
 .ret)))
noncomputable def B3:Cx:=⟨Tryz.prog,179,Tryz.f179,19,[],[],[.t 4]⟩
theorem DK:Good B3:=⟨Tryz.func179,by kernel_rfl⟩
theorem Ii:B3.rs=[.t 4]:=rfl
theorem Iq (hl:args.length≤19) (h:Run B3 K [.code Ew] (As args) E σ):AT Tryz.prog 179 args σ K:=
 AX (cx:=B3) (code:=Tryz.f179.body.getD .skip) DK (by kernel_rfl) Tryz.ntmps179 hl (AZ B3 _ (BB Ew) _ [] (by kernel_rfl)) h
def Rz:C:=(.seq (.reg [Qo 2 (.mv (.c (.d (.bool false))))] [0])
 (.seq (.reg [Qm 3 0,
 Qo 4 (.bin .eql (.t 3) (.c (.d (.int .u8 9)))),
 Qm 5 4,
 ⟨some 6,.mv (.t 0),some (5,false)⟩,
 ⟨some 7,.bin .eql (.t 6) (.c (.d (.int .u8 10))),some (5,false)⟩,
 Qo 8 (.pick (.t 5) (.c (.d (.bool true))) (.t 7)),
 Qm 9 8,
 ⟨some 10,.mv (.t 0),some (9,false)⟩,
 ⟨some 11,.bin .eql (.t 10) (.c (.d (.int .u8 13))),some (9,false)⟩,
 Qo 12 (.pick (.t 9) (.c (.d (.bool true))) (.t 11)),
 Qm 13 12,
 ⟨some 14,.mv (.t 0),some (13,false)⟩,
 ⟨some 15,.bin .eql (.t 14) (.c (.d (.int .u8 32))),some (13,false)⟩,
 Qo 16 (.pick (.t 13) (.c (.d (.bool true))) (.t 15)),
 Qm 2 16] [2])
 .ret))
noncomputable def H4:Cx:=⟨Tryz.prog,58,Tryz.f58,17,[],[],[.t 2]⟩
theorem SH:Good H4:=⟨Tryz.func58,by kernel_rfl⟩
theorem W9:H4.rs=[.t 2]:=rfl
theorem X2 (hl:args.length≤17) (h:Run H4 K [.code Rz] (As args) E σ):AT Tryz.prog 58 args σ K:=
 AX (cx:=H4) (code:=Tryz.f58.body.getD .skip) SH (by kernel_rfl) Tryz.ntmps58 hl (AZ H4 _ (BB Rz) _ [] (by kernel_rfl)) h
def TI:C:=(.seq (.reg [Qo 4 (.al [(.d (.int .i64 0)),(.d (.str [])),(.d (.int .i64 0))] false),
 Qo 5 (.mv (.c (.d (.int .i64 0))))] [0,1,4])
 (.seq (.reg [Qm 8 1,
 Qo 9 (.bld [(.d (.int .i64 0)),(.d (.str [])),(.d (.int .i64 0))] [(2,1,(.t 8))]),
 Qo 6 (.al [(.d (.int .i64 0)),(.d (.str [])),(.d (.int .i64 0))] false),
 ⟨none,.st (.t 6) (.t 9) 3,none⟩] [0,1,4,6])
 (.seq (.seq (.reg [Qm 10 0,
 Qm 11 1,
 Qo 12 (.Wl (.t 10) (.t 11)),
 Qm 7 12] [0,1,4,6,7])
 (.block 0 (.seq (.reg [Qm 24 7,
 Qo 25 (.call 112 [(.t 24)]),
 Qm 26 25,
 ⟨some 27,.mv (.t 7),some (26,false)⟩,
 ⟨some 28,.call 113 [(.t 27)],some (26,false)⟩,
 Qo 29 (.pick (.t 26) (.c (.d (.bool true))) (.t 28)),
 Qm 23 29] [0,1,4,6,7,23])
 (.cond (.t 23) (.seq (.reg [Qm 30 0,
 Qm 31 1,
 Qo 32 (.ssl (.t 30) (some (.t 31)) none),
 Qo 33 (.call 114 [(.t 32),(.c (.fn 115 [] []))]),
 Qo 34 (.fld (.t 6) 1),
 ⟨none,.st (.t 34) (.t 33) 1,none⟩] [4,6,7])
 (.block 1 (.seq (.reg [Qo 37 (.fld (.t 6) 1),
 Qo 38 (.ldl (.t 37) none),
 Qo 39 (.Pw (.t 38)),
 Qo 40 (.bin .gtr (.t 39) (.c (.d (.int .i64 24)))),
 Qm 36 40] [4,6,7,36])
 (.cond (.t 36) (.seq (.reg [Qo 41 (.bld [(.d (.int .i64 0)),(.d (.str [])),(.d (.int .i64 0))] []),
 ⟨none,.st (.t 4) (.t 41) 3,none⟩,
 Qo 5 (.mv (.c (.d (.int .i64 9))))] [4,5])
 .ret)
 (.seq (.reg [Qm 43 7,
 Qo 44 (.call 113 [(.t 43)]),
 Qm 42 44] [4,6,42])
 (.cond (.t 42) (.reg [Qo 45 (.fld (.t 6) 0),
 ⟨none,.st (.t 45) (.c (.d (.int .i64 2))) 1,none⟩] [4,6])
 (.seq (.reg [Qo 47 (.fld (.t 6) 1),
 Qo 48 (.ldl (.t 47) none),
 Qo 49 (.call 116 [(.t 48)]),
 Qm 46 49] [4,6,46])
 (.cond (.t 46) (.reg [Qo 50 (.fld (.t 6) 0),
 ⟨none,.st (.t 50) (.c (.d (.int .i64 4))) 1,none⟩] [4,6])
 (.reg [Qo 35 (.fld (.t 6) 0),
 ⟨none,.st (.t 35) (.c (.d (.int .i64 1))) 1,none⟩] [4,6])))))))))
 (.seq (.reg [Qm 52 7,
 Qo 53 (.call 117 [(.t 52)]),
 Qm 51 53] [0,1,4,6,7,51])
 (.cond (.t 51) (.seq (.reg [Qo 54 (.fld (.t 6) 0),
 ⟨none,.st (.t 54) (.c (.d (.int .i64 3))) 1,none⟩] [0,1,4,6,7])
 (.seq (.reg [Qm 55 0,
 Qm 56 1,
 Qo 57 (.ssl (.t 55) (some (.t 56)) none),
 Qo 58 (.call 114 [(.t 57),(.c (.fn 117 [] []))]),
 Qo 59 (.fld (.t 6) 1),
 ⟨none,.st (.t 59) (.t 58) 1,none⟩] [4,6,7])
 (.seq (.seq (.reg [Qm 60 7,
 Qo 61 (.bin .eql (.t 60) (.c (.d (.int .u8 48)))),
 Qm 62 61,
 ⟨some 63,.fld (.t 6) 1,some (62,true)⟩,
 ⟨some 64,.ldl (.t 63) none,some (62,true)⟩,
 ⟨some 65,.Pw (.t 64),some (62,true)⟩,
 ⟨some 66,.bin .gtr (.t 65) (.c (.d (.int .i64 1))),some (62,true)⟩,
 Qo 67 (.pick (.t 62) (.t 66) (.c (.d (.bool false))))] [4,6,67])
 (.cond (.t 67) (.seq (.reg [Qo 68 (.bld [(.d (.int .i64 0)),(.d (.str [])),(.d (.int .i64 0))] []),
 ⟨none,.st (.t 4) (.t 68) 3,none⟩,
 Qo 5 (.mv (.c (.d (.int .i64 2))))] [4,5])
 .ret)
 .skip))
 (.seq (.reg [Qo 69 (.fld (.t 6) 1),
 Qo 70 (.ldl (.t 69) none),
 Qo 71 (.call 118 [(.t 70)]),
 Qo 72 (.un .not (.t 71))] [4,6,72])
 (.cond (.t 72) (.seq (.reg [Qo 73 (.bld [(.d (.int .i64 0)),(.d (.str [])),(.d (.int .i64 0))] []),
 ⟨none,.st (.t 4) (.t 73) 3,none⟩,
 Qo 5 (.mv (.c (.d (.int .i64 9))))] [4,5])
 .ret)
 .skip)))))
 (.seq (.reg [Qo 13 (.fld (.t 6) 0),
 ⟨none,.st (.t 13) (.c (.d (.int .i64 5))) 1,none⟩] [0,1,4,6])
 (.seq (.reg [Qm 14 0,
 Qm 15 1,
 Qo 16 (.ssl (.t 14) (some (.t 15)) none),
 Qo 17 (.call 119 [(.t 16)]),
 Qo 18 (.fld (.t 6) 1),
 ⟨none,.st (.t 18) (.t 17) 1,none⟩] [4,6])
 (.seq (.reg [Qo 19 (.fld (.t 6) 1),
 Qo 20 (.ldl (.t 19) none),
 Qo 21 (.bin .eql (.t 20) (.c (.d (.str []))))] [4,6,21])
 (.cond (.t 21) (.seq (.reg [Qo 22 (.bld [(.d (.int .i64 0)),(.d (.str [])),(.d (.int .i64 0))] []),
 ⟨none,.st (.t 4) (.t 22) 3,none⟩,
 Qo 5 (.mv (.c (.d (.int .i64 2))))] [4,5])
 .ret)
 .skip))))))))))
 (.seq (.reg [Qo 74 (.ldl (.t 6) (some 3)),
 ⟨none,.st (.t 4) (.t 74) 3,none⟩,
 Qo 5 (.mv (.c (.d (.int .i64 0))))] [4,5])
 .ret))))
noncomputable def Io:Cx:=⟨Tryz.prog,59,Tryz.f59,75,[300038,300048,300064,300070,300020,300074],[],[.c 4 (some 3),.t 5]⟩
theorem TR:Good Io:=⟨Tryz.func59,by kernel_rfl⟩
theorem X9:Io.rs=[.c 4 (some 3),.t 5]:=rfl
theorem Ya (hl:args.length≤75) (h:Run Io K [.code TI] (As args) E σ):AT Tryz.prog 59 args σ K:=
 AX (cx:=Io) (code:=Tryz.f59.body.getD .skip) TR (by kernel_rfl) Tryz.ntmps59 hl (AZ Io _ (BB TI) _ [] (by kernel_rfl)) h
def F2:C:=(.seq (.reg [Qo 4 (.mv (.c (.d (.bool false))))] [0,1])
 (.seq (.reg [Qm 5 0,
 Qm 6 1,
 Qo 7 (.call 195 [(.t 5),(.t 6)]),
 Qo 8 (.bin .geq (.t 7) (.c (.d (.int .i64 0)))),
 Qm 4 8] [4])
 .ret))
noncomputable def Bi:Cx:=⟨Tryz.prog,180,Tryz.f180,9,[],[],[.t 4]⟩
theorem F5:Good Bi:=⟨Tryz.func180,by kernel_rfl⟩
theorem Ja:Bi.rs=[.t 4]:=rfl
theorem KR (hl:args.length≤9) (h:Run Bi K [.code F2] (As args) E σ):AT Tryz.prog 180 args σ K:=
 AX (cx:=Bi) (code:=Tryz.f180.body.getD .skip) F5 (by kernel_rfl) Tryz.ntmps180 hl (AZ Bi _ (BB F2) _ [] (by kernel_rfl)) h
def IJ:C:=(.seq (.reg [Qo 2 (.box (.t 0) false),
 Qo 3 (.mv (.c (.d (.bool false))))] [1,2])
 (.seq (.reg [Qo 4 (.ld (.t 1) none),
 Qo 5 (.ldl (.t 2) (some 8)),
 Qo 6 (.ED (.t 4) [(.t 5)]),
 Qo 7 (.un .not (.t 6)),
 Qm 3 7] [3])
 .ret))
noncomputable def Cu:Cx:=⟨Tryz.prog,181,Tryz.f181,8,[300005],[],[.t 3]⟩
theorem I1:Good Cu:=⟨Tryz.func181,by kernel_rfl⟩
theorem No:Cu.rs=[.t 3]:=rfl
theorem O1 (hl:args.length≤8) (h:Run Cu K [.code IJ] (As args) E σ):AT Tryz.prog 181 args σ K:=
 AX (cx:=Cu) (code:=Tryz.f181.body.getD .skip) I1 (by kernel_rfl) Tryz.ntmps181 hl (AZ Cu _ (BB IJ) _ [] (by kernel_rfl)) h
def SB:C:=(.seq (.reg [Qo 2 (.mv (.c (.d (.bool false))))] [0])
 (.seq (.reg [Qm 3 0,
 Qo 4 (.bin .geq (.t 3) (.c (.d (.int .u8 97)))),
 Qm 5 4,
 ⟨some 6,.mv (.t 0),some (5,true)⟩,
 ⟨some 7,.bin .leq (.t 6) (.c (.d (.int .u8 122))),some (5,true)⟩,
 Qo 8 (.pick (.t 5) (.t 7) (.c (.d (.bool false)))),
 Qm 2 8] [2])
 .ret))
noncomputable def H6:Cx:=⟨Tryz.prog,112,Tryz.f112,9,[],[],[.t 2]⟩
theorem SJ:Good H6:=⟨Tryz.func112,by kernel_rfl⟩
theorem Wb:H6.rs=[.t 2]:=rfl
theorem X4 (hl:args.length≤9) (h:Run H6 K [.code SB] (As args) E σ):AT Tryz.prog 112 args σ K:=
 AX (cx:=H6) (code:=Tryz.f112.body.getD .skip) SJ (by kernel_rfl) Tryz.ntmps112 hl (AZ H6 _ (BB SB) _ [] (by kernel_rfl)) h
def SD:C:=(.seq (.reg [Qo 2 (.mv (.c (.d (.bool false))))] [0])
 (.seq (.reg [Qm 3 0,
 Qo 4 (.bin .geq (.t 3) (.c (.d (.int .u8 65)))),
 Qm 5 4,
 ⟨some 6,.mv (.t 0),some (5,true)⟩,
 ⟨some 7,.bin .leq (.t 6) (.c (.d (.int .u8 90))),some (5,true)⟩,
 Qo 8 (.pick (.t 5) (.t 7) (.c (.d (.bool false)))),
 Qm 2 8] [2])
 .ret))
noncomputable def H8:Cx:=⟨Tryz.prog,113,Tryz.f113,9,[],[],[.t 2]⟩
theorem SK:Good H8:=⟨Tryz.func113,by kernel_rfl⟩
theorem Wd:H8.rs=[.t 2]:=rfl
theorem X6 (hl:args.length≤9) (h:Run H8 K [.code SD] (As args) E σ):AT Tryz.prog 113 args σ K:=
 AX (cx:=H8) (code:=Tryz.f113.body.getD .skip) SK (by kernel_rfl) Tryz.ntmps113 hl (AZ H8 _ (BB SD) _ [] (by kernel_rfl)) h
def TH:C:=(.seq (.seq (.reg [Qm 6 5,
 Qm 7 0,
 Qo 8 (.Pw (.t 7)),
 Qo 9 (.bin .lss (.t 6) (.t 8)),
 Qm 10 9,
 ⟨some 11,.mv (.t 1),some (10,true)⟩,
 ⟨some 12,.mv (.t 0),some (10,true)⟩,
 ⟨some 13,.mv (.t 5),some (10,true)⟩,
 ⟨some 14,.Wl (.t 12) (.t 13),some (10,true)⟩,
 ⟨some 15,.ED (.t 11) [(.t 14)],some (10,true)⟩,
 Qo 16 (.pick (.t 10) (.t 15) (.c (.d (.bool false))))] [0,1,5,16])
 (.cond (.t 16) .skip
 (.exit 0)))
 (.block 1 (.reg [Qm 17 5,
 Qo 18 (.bin .add (.t 17) (.c (.d (.int .i64 1)))),
 Qm 5 18] [0,1,5])))
def QI:C:=(.seq (.reg [Qo 4 (.mv (.c (.d (.str []))))] [0,1])
 (.seq (.reg [Qo 5 (.mv (.c (.d (.int .i64 0))))] [0,1,5])
 (.seq (.block 0 (.loop TH))
 (.seq (.reg [Qm 19 0,
 Qm 20 5,
 Qo 21 (.ssl (.t 19) none (some (.t 20))),
 Qm 4 21] [4])
 .ret))))
noncomputable def Gk:Cx:=⟨Tryz.prog,114,Tryz.f114,22,[],[],[.t 4]⟩
theorem Ly:Good Gk:=⟨Tryz.func114,by kernel_rfl⟩
theorem VN:Gk.rs=[.t 4]:=rfl
theorem WG (hl:args.length≤22) (h:Run Gk K [.code QI] (As args) E σ):AT Tryz.prog 114 args σ K:=
 AX (cx:=Gk) (code:=Tryz.f114.body.getD .skip) Ly (by kernel_rfl) Tryz.ntmps114 hl (AZ Gk _ (BB QI) _ [] (by kernel_rfl)) h
def QJ:C:=(.seq (.reg [Qo 2 (.mv (.c (.d (.bool false))))] [0])
 (.seq (.reg [Qm 3 0,
 Qo 4 (.call 112 [(.t 3)]),
 Qm 5 4,
 ⟨some 6,.mv (.t 0),some (5,false)⟩,
 ⟨some 7,.call 113 [(.t 6)],some (5,false)⟩,
 Qo 8 (.pick (.t 5) (.c (.d (.bool true))) (.t 7)),
 Qm 9 8,
 ⟨some 10,.mv (.t 0),some (9,false)⟩,
 ⟨some 11,.call 117 [(.t 10)],some (9,false)⟩,
 Qo 12 (.pick (.t 9) (.c (.d (.bool true))) (.t 11)),
 Qm 13 12,
 ⟨some 14,.mv (.t 0),some (13,false)⟩,
 ⟨some 15,.bin .eql (.t 14) (.c (.d (.int .u8 95))),some (13,false)⟩,
 Qo 16 (.pick (.t 13) (.c (.d (.bool true))) (.t 15)),
 Qm 2 16] [2])
 .ret))
noncomputable def Gl:Cx:=⟨Tryz.prog,115,Tryz.f115,17,[],[],[.t 2]⟩
theorem QO:Good Gl:=⟨Tryz.func115,by kernel_rfl⟩
theorem VO:Gl.rs=[.t 2]:=rfl
theorem WH (hl:args.length≤17) (h:Run Gl K [.code QJ] (As args) E σ):AT Tryz.prog 115 args σ K:=
 AX (cx:=Gl) (code:=Tryz.f115.body.getD .skip) QO (by kernel_rfl) Tryz.ntmps115 hl (AZ Gl _ (BB QJ) _ [] (by kernel_rfl)) h
def PJ:C:=(.seq (.reg [Qo 2 (.mv (.c (.d (.bool false))))] [0])
 (.seq (.seq (.reg [Qm 3 0] [3])
 (.block 0 (.seq (.seq (.reg [Qo 5 (.bin .eql (.t 3) (.c (.d (.str [97,114,114,97,121])))),
 Qm 4 5] [3,4])
 (.cond (.t 4) .skip
 (.seq (.reg [Qo 6 (.bin .eql (.t 3) (.c (.d (.str [98,111,111,108])))),
 Qm 4 6] [3,4])
 (.cond (.t 4) .skip
 (.seq (.reg [Qo 7 (.bin .eql (.t 3) (.c (.d (.str [99,97,116,99,104])))),
 Qm 4 7] [3,4])
 (.cond (.t 4) .skip
 (.seq (.reg [Qo 8 (.bin .eql (.t 3) (.c (.d (.str [100,97,116,97])))),
 Qm 4 8] [3,4])
 (.cond (.t 4) .skip
 (.seq (.reg [Qo 9 (.bin .eql (.t 3) (.c (.d (.str [101,108,115,101])))),
 Qm 4 9] [3,4])
 (.cond (.t 4) .skip
 (.seq (.reg [Qo 10 (.bin .eql (.t 3) (.c (.d (.str [101,110,100])))),
 Qm 4 10] [3,4])
 (.cond (.t 4) .skip
 (.seq (.reg [Qo 11 (.bin .eql (.t 3) (.c (.d (.str [102,97,108,115,101])))),
 Qm 4 11] [3,4])
 (.cond (.t 4) .skip
 (.seq (.reg [Qo 12 (.bin .eql (.t 3) (.c (.d (.str [102,110])))),
 Qm 4 12] [3,4])
 (.cond (.t 4) .skip
 (.seq (.reg [Qo 13 (.bin .eql (.t 3) (.c (.d (.str [102,117,110])))),
 Qm 4 13] [3,4])
 (.cond (.t 4) .skip
 (.seq (.reg [Qo 14 (.bin .eql (.t 3) (.c (.d (.str [103,101,116])))),
 Qm 4 14] [3,4])
 (.cond (.t 4) .skip
 (.seq (.reg [Qo 15 (.bin .eql (.t 3) (.c (.d (.str [105,102])))),
 Qm 4 15] [3,4])
 (.cond (.t 4) .skip
 (.seq (.reg [Qo 16 (.bin .eql (.t 3) (.c (.d (.str [105,110])))),
 Qm 4 16] [3,4])
 (.cond (.t 4) .skip
 (.seq (.reg [Qo 17 (.bin .eql (.t 3) (.c (.d (.str [105,110,116])))),
 Qm 4 17] [3,4])
 (.cond (.t 4) .skip
 (.seq (.reg [Qo 18 (.bin .eql (.t 3) (.c (.d (.str [108,101,110])))),
 Qm 4 18] [3,4])
 (.cond (.t 4) .skip
 (.seq (.reg [Qo 19 (.bin .eql (.t 3) (.c (.d (.str [108,101,116])))),
 Qm 4 19] [3,4])
 (.cond (.t 4) .skip
 (.seq (.reg [Qo 20 (.bin .eql (.t 3) (.c (.d (.str [109,97,116,99,104])))),
 Qm 4 20] [3,4])
 (.cond (.t 4) .skip
 (.seq (.reg [Qo 21 (.bin .eql (.t 3) (.c (.d (.str [110,101,119])))),
 Qm 4 21] [3,4])
 (.cond (.t 4) .skip
 (.seq (.reg [Qo 22 (.bin .eql (.t 3) (.c (.d (.str [114,97,105,115,101])))),
 Qm 4 22] [3,4])
 (.cond (.t 4) .skip
 (.seq (.reg [Qo 23 (.bin .eql (.t 3) (.c (.d (.str [114,101,97,100])))),
 Qm 4 23] [3,4])
 (.cond (.t 4) .skip
 (.seq (.reg [Qo 24 (.bin .eql (.t 3) (.c (.d (.str [114,101,102])))),
 Qm 4 24] [3,4])
 (.cond (.t 4) .skip
 (.seq (.reg [Qo 25 (.bin .eql (.t 3) (.c (.d (.str [115,101,116])))),
 Qm 4 25] [3,4])
 (.cond (.t 4) .skip
 (.seq (.reg [Qo 26 (.bin .eql (.t 3) (.c (.d (.str [116,104,101,110])))),
 Qm 4 26] [3,4])
 (.cond (.t 4) .skip
 (.seq (.reg [Qo 27 (.bin .eql (.t 3) (.c (.d (.str [116,105,99,107])))),
 Qm 4 27] [3,4])
 (.cond (.t 4) .skip
 (.seq (.reg [Qo 28 (.bin .eql (.t 3) (.c (.d (.str [116,114,117,101])))),
 Qm 4 28] [3,4])
 (.cond (.t 4) .skip
 (.seq (.reg [Qo 29 (.bin .eql (.t 3) (.c (.d (.str [116,114,121])))),
 Qm 4 29] [3,4])
 (.cond (.t 4) .skip
 (.seq (.reg [Qo 30 (.bin .eql (.t 3) (.c (.d (.str [117,110,105,116])))),
 Qm 4 30] [3,4])
 (.cond (.t 4) .skip
 (.seq (.reg [Qo 31 (.bin .eql (.t 3) (.c (.d (.str [119,105,116,104])))),
 Qm 4 31] [3,4])
 (.cond (.t 4) .skip
 (.reg [Qo 32 (.bin .eql (.t 3) (.c (.d (.str [119,114,105,116,101])))),
 Qm 4 32] [4])))))))))))))))))))))))))))))))))))))))))))))))))))))))
 (.cond (.t 4) (.seq (.reg [Qo 2 (.mv (.c (.d (.bool true))))] [2])
 .ret)
 .skip))))
 (.seq (.reg [Qo 2 (.mv (.c (.d (.bool false))))] [2])
 .ret)))
noncomputable def Fw:Cx:=⟨Tryz.prog,116,Tryz.f116,33,[],[],[.t 2]⟩
theorem PO:Good Fw:=⟨Tryz.func116,by kernel_rfl⟩
theorem U5:Fw.rs=[.t 2]:=rfl
theorem VF (hl:args.length≤33) (h:Run Fw K [.code PJ] (As args) E σ):AT Tryz.prog 116 args σ K:=
 AX (cx:=Fw) (code:=Tryz.f116.body.getD .skip) PO (by kernel_rfl) Tryz.ntmps116 hl (AZ Fw _ (BB PJ) _ [] (by kernel_rfl)) h
def SA:C:=(.seq (.reg [Qo 2 (.mv (.c (.d (.bool false))))] [0])
 (.seq (.reg [Qm 3 0,
 Qo 4 (.bin .geq (.t 3) (.c (.d (.int .u8 48)))),
 Qm 5 4,
 ⟨some 6,.mv (.t 0),some (5,true)⟩,
 ⟨some 7,.bin .leq (.t 6) (.c (.d (.int .u8 57))),some (5,true)⟩,
 Qo 8 (.pick (.t 5) (.t 7) (.c (.d (.bool false)))),
 Qm 2 8] [2])
 .ret))
noncomputable def H5:Cx:=⟨Tryz.prog,117,Tryz.f117,9,[],[],[.t 2]⟩
theorem SI:Good H5:=⟨Tryz.func117,by kernel_rfl⟩
theorem Wa:H5.rs=[.t 2]:=rfl
theorem X3 (hl:args.length≤9) (h:Run H5 K [.code SA] (As args) E σ):AT Tryz.prog 117 args σ K:=
 AX (cx:=H5) (code:=Tryz.f117.body.getD .skip) SI (by kernel_rfl) Tryz.ntmps117 hl (AZ H5 _ (BB SA) _ [] (by kernel_rfl)) h
def Tx:C:=(.seq (.reg [Qo 8 (.bin .lss (.t 7) (.t 6))] [0,3,6,7,8])
 (.seq (.cond (.t 8) .skip
 (.exit 0))
 (.seq (.block 1 (.seq (.reg [Qm 9 7,
 Qm 4 9] [0,3,4,6,7])
 (.seq (.reg [Qm 10 3,
 Qo 11 (.bin .mul (.t 10) (.c (.d (.int .i64 10)))),
 Qm 12 0,
 Qm 13 4,
 Qo 14 (.Wl (.t 12) (.t 13)),
 Qo 15 (.bin .sub (.t 14) (.c (.d (.int .u8 48)))),
 Qo 16 (.conv .i64 (.t 15)),
 Qo 17 (.bin .add (.t 11) (.t 16)),
 Qm 3 17] [0,3,6,7])
 (.seq (.reg [Qm 18 3,
 Qo 19 (.bin .gtr (.t 18) (.c (.d (.int .i64 1000000))))] [0,3,6,7,19])
 (.cond (.t 19) (.seq (.reg [Qo 2 (.mv (.c (.d (.bool false))))] [2])
 .ret)
 .skip)))))
 (.reg [Qo 20 (.bin .add (.t 7) (.c (.d (.int .i64 1)))),
 Qm 7 20] [0,3,6,7]))))
def SC:C:=(.seq (.reg [Qo 2 (.mv (.c (.d (.bool false))))] [0])
 (.seq (.reg [Qo 3 (.mv (.c (.d (.int .i64 0))))] [0,3])
 (.seq (.seq (.reg [Qm 5 0,
 Qo 6 (.Pw (.t 5)),
 Qo 7 (.mv (.c (.d (.int .i64 0))))] [0,3,6,7])
 (.block 0 (.loop Tx)))
 (.seq (.reg [Qo 2 (.mv (.c (.d (.bool true))))] [2])
 .ret))))
noncomputable def H7:Cx:=⟨Tryz.prog,118,Tryz.f118,21,[],[],[.t 2]⟩
theorem Mu:Good H7:=⟨Tryz.func118,by kernel_rfl⟩
theorem Wc:H7.rs=[.t 2]:=rfl
theorem X5 (hl:args.length≤21) (h:Run H7 K [.code SC] (As args) E σ):AT Tryz.prog 118 args σ K:=
 AX (cx:=H7) (code:=Tryz.f118.body.getD .skip) Mu (by kernel_rfl) Tryz.ntmps118 hl (AZ H7 _ (BB SC) _ [] (by kernel_rfl)) h
def TJ:C:=(.seq (.reg [Qo 2 (.mv (.c (.d (.str []))))] [0])
 (.seq (.seq (.reg [Qm 3 0,
 Qo 4 (.Pw (.t 3)),
 Qo 5 (.bin .geq (.t 4) (.c (.d (.int .i64 2))))] [0,5])
 (.cond (.t 5) (.seq (.reg [Qm 6 0,
 Qo 7 (.ssl (.t 6) none (some (.c (.d (.int .i64 2)))))] [0,7])
 (.block 0 (.seq (.seq (.reg [Qo 9 (.bin .eql (.t 7) (.c (.d (.str [45,62])))),
 Qm 8 9] [0,7,8])
 (.cond (.t 8) .skip
 (.seq (.reg [Qo 10 (.bin .eql (.t 7) (.c (.d (.str [60,61])))),
 Qm 8 10] [0,7,8])
 (.cond (.t 8) .skip
 (.reg [Qo 11 (.bin .eql (.t 7) (.c (.d (.str [61,61])))),
 Qm 8 11] [0,8])))))
 (.cond (.t 8) (.seq (.reg [Qm 12 0,
 Qo 13 (.ssl (.t 12) none (some (.c (.d (.int .i64 2))))),
 Qm 2 13] [2])
 .ret)
 .skip))))
 .skip))
 (.seq (.seq (.reg [Qm 14 0,
 Qo 15 (.ssl (.t 14) none (some (.c (.d (.int .i64 1)))))] [0,15])
 (.block 1 (.seq (.seq (.reg [Qo 17 (.bin .eql (.t 15) (.c (.d (.str [40])))),
 Qm 16 17] [0,15,16])
 (.cond (.t 16) .skip
 (.seq (.reg [Qo 18 (.bin .eql (.t 15) (.c (.d (.str [41])))),
 Qm 16 18] [0,15,16])
 (.cond (.t 16) .skip
 (.seq (.reg [Qo 19 (.bin .eql (.t 15) (.c (.d (.str [44])))),
 Qm 16 19] [0,15,16])
 (.cond (.t 16) .skip
 (.seq (.reg [Qo 20 (.bin .eql (.t 15) (.c (.d (.str [61])))),
 Qm 16 20] [0,15,16])
 (.cond (.t 16) .skip
 (.seq (.reg [Qo 21 (.bin .eql (.t 15) (.c (.d (.str [124])))),
 Qm 16 21] [0,15,16])
 (.cond (.t 16) .skip
 (.seq (.reg [Qo 22 (.bin .eql (.t 15) (.c (.d (.str [43])))),
 Qm 16 22] [0,15,16])
 (.cond (.t 16) .skip
 (.seq (.reg [Qo 23 (.bin .eql (.t 15) (.c (.d (.str [45])))),
 Qm 16 23] [0,15,16])
 (.cond (.t 16) .skip
 (.seq (.reg [Qo 24 (.bin .eql (.t 15) (.c (.d (.str [42])))),
 Qm 16 24] [0,15,16])
 (.cond (.t 16) .skip
 (.seq (.reg [Qo 25 (.bin .eql (.t 15) (.c (.d (.str [47])))),
 Qm 16 25] [0,15,16])
 (.cond (.t 16) .skip
 (.seq (.reg [Qo 26 (.bin .eql (.t 15) (.c (.d (.str [37])))),
 Qm 16 26] [0,15,16])
 (.cond (.t 16) .skip
 (.seq (.reg [Qo 27 (.bin .eql (.t 15) (.c (.d (.str [60])))),
 Qm 16 27] [0,15,16])
 (.cond (.t 16) .skip
 (.seq (.reg [Qo 28 (.bin .eql (.t 15) (.c (.d (.str [59])))),
 Qm 16 28] [0,15,16])
 (.cond (.t 16) .skip
 (.reg [Qo 29 (.bin .eql (.t 15) (.c (.d (.str [95])))),
 Qm 16 29] [0,16])))))))))))))))))))))))))
 (.cond (.t 16) (.seq (.reg [Qm 30 0,
 Qo 31 (.ssl (.t 30) none (some (.c (.d (.int .i64 1))))),
 Qm 2 31] [2])
 .ret)
 .skip))))
 (.seq (.reg [Qo 2 (.mv (.c (.d (.str []))))] [2])
 .ret))))
noncomputable def Ip:Cx:=⟨Tryz.prog,119,Tryz.f119,32,[],[],[.t 2]⟩
theorem O0:Good Ip:=⟨Tryz.func119,by kernel_rfl⟩
theorem Xa:Ip.rs=[.t 2]:=rfl
theorem TU (hl:args.length≤32) (h:Run Ip K [.code TJ] (As args) E σ):AT Tryz.prog 119 args σ K:=
 AX (cx:=Ip) (code:=Tryz.f119.body.getD .skip) O0 (by kernel_rfl) Tryz.ntmps119 hl (AZ Ip _ (BB TJ) _ [] (by kernel_rfl)) h
def Jl:C:=(.seq (.reg [Qo 9 (.bin .lss (.t 8) (.t 7))] [0,1,7,8,9])
 (.seq (.cond (.t 9) .skip
 (.exit 0))
 (.seq (.block 1 (.seq (.reg [Qm 10 8,
 Qm 5 10] [0,1,5,7,8])
 (.seq (.reg [Qm 11 1,
 Qm 12 0,
 Qm 13 5,
 Qo 14 (.ix (.t 12) (.t 13) 8),
 Qo 15 (.ld (.t 14) (some 8)),
 Qo 16 (.ED (.t 11) [(.t 15)])] [0,1,5,7,8,16])
 (.cond (.t 16) (.seq (.reg [Qm 17 5,
 Qm 4 17] [4])
 .ret)
 .skip))))
 (.reg [Qo 18 (.bin .add (.t 8) (.c (.d (.int .i64 1)))),
 Qm 8 18] [0,1,7,8]))))
def GS:C:=(.seq (.reg [Qo 4 (.mv (.c (.d (.int .i64 0))))] [0,1])
 (.seq (.seq (.reg [Qm 6 0,
 Qo 7 (.len (.t 6)),
 Qo 8 (.mv (.c (.d (.int .i64 0))))] [0,1,7,8])
 (.block 0 (.loop Jl)))
 (.seq (.reg [Qo 4 (.mv (.c (.d (.int .i64 (-1)))))] [4])
 .ret)))
noncomputable def CG:Cx:=⟨Tryz.prog,195,Tryz.f195,19,[],[],[.t 4]⟩
theorem E4:Good CG:=⟨Tryz.func195,by kernel_rfl⟩
theorem L6:CG.rs=[.t 4]:=rfl
theorem MA (hl:args.length≤19) (h:Run CG K [.code GS] (As args) E σ):AT Tryz.prog 195 args σ K:=
 AX (cx:=CG) (code:=Tryz.f195.body.getD .skip) E4 (by kernel_rfl) Tryz.ntmps195 hl (AZ CG _ (BB GS) _ [] (by kernel_rfl)) h
attribute [go_sem] VK LM U4 Qj Ol Td M6 JW MN Nz Rj Tc KZ Ok Ri Hg L7 HW Ko Pv W8 MM Rh VM U3 Pf Sk Tb Rg Iu Ii W9 X9 Ja No Wb Wd VN VO U5 Wa Wc Xa L6
end Go.Ab
