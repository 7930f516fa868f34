/- The equations that run compact code, as one set. The types of package api as plain data, and how they lie in abstract values. The programs of package api as plain data, and how they lie in abstract values. The compact codes of the functions of this seat, computed out of the translation. Conditions: none. -/
import Derived.Test.YtifplkldbbcldaaGreatDoorProg
import Derived.KernelRfl
import Derived.Test.YtifplkldbbcldaaGreatDoorXLift
set_option linter.unusedSimpArgs false
set_option linter.unusedVariables false
set_option maxRecDepth 4000
set_option maxHeartbeats 8000000
open Option renaming bind_some→BY,map_some→C9,bind_eq_bind→AU
open List renaming map_cons→AF,map_nil→AI,all_cons→Bv,all_nil→L8,length_cons→AB,length_nil→AE,getElem?_cons_zero→A5,getElem?_cons_succ→Ag,take_succ_cons→Ci,take_zero→GY,cons_append→A0,nil_append→A3,append_nil→A1,getElem?_map→BC,getElem?_eq_some_iff→Aa
open Bool renaming and_true→BH,true_and→BJ,or_true→Od,or_false→Mm,false_or→Ml,and_false→D9,false_and→E5,false_eq_true→AW
open Nat renaming add_zero→E6,zero_add→Bb,le_refl→A9
namespace Go.Ab
attribute [go_sem] ADN zF zE zG zD exP Tw lC yD xZ sS sM qB pW yJ yE AC7 AC1 uY uT mW n6 ACG dZ zH ACQ zL ADO ACP ACO zP zS ACJ zK fdA rG cI cP Lo wS qO j3 gI qU lM w5 Option.map_none false_implies true_implies ACS ACR zT zU ACN wI ADW zO ACF ADU ADT zQ ACH zR ACA zI ADY zN ACB ACD ACI ACE ACL ADV ACC ADM zJ AB8 ADX wJ zM wH AB9 wG ACK ADS ADQ AC8 AC9 rD IQ vG ACT ACZ tK qG qF kZ lT yR lS rC AEA AD9 ixA ixR Int.toNat_natCast Int.natCast_nonneg rV eM lZ rvA wT j5 pD j2 pC sQ sP sN j4 sR sO pE fR tH gK kW gG kV p9 pZ pX gJ qA pY kX dS KU qW uL qT Fh yH JY yF qV yI yG uM lE AD1 w7 AA4 w4 AA3 AC5 AC4 AC2 w6 AC6 AC3 AA5 s9 rF vL rE ABZ qK tU qJ xQ xR ABI QV I0 q6 lL KZ uW uV uU lN uX plain_fn q7 iB AV.Dt Cut oP zC zB zA hZ kG rdC ldA cO pU oZ bH unA pJ uI stA wr Ia dvs chunk xvs Ak yQ rB ABN qQ uF qN uE yB yA x8 qP yC x9 uG k9 AO A4 GJ kD BY C9 AU Option.pure_def AF AI Bv L8 AB AE A5 Ag Ci GY List.drop_succ_cons List.drop_zero List.take_nil List.drop_nil A0 A3 A1 Bool.and_self BH BJ Od Bool.true_or Mm Ml Bool.not_true Bool.not_false D9 E5 Bool.not_not BEq.rfl beq_self_eq_true E6 Bb decide_true decide_false A9 and_self and_true true_and ite_true ite_false AW Bool.cond_true Bool.cond_false beq_true beq_false Bool.true_beq Bool.false_beq
def Ax:C→List (List Nat×PT)
 | .reg _ l=>[(l,.done)]
 | .FZ _ l=>[(l,.done)]
 | .seq x y=>Ax x++Ax y
 | .cond _ t e=>Ax t++Ax e
 | .block _ c=>Ax c
 | .loop c=>Ax c
 | .scope c=>Ax c
 |_=>[]
@[reducible] def Qo (d:Nat) (o:O):Q:=⟨some d,o,none⟩
@[reducible] def Qm (d s:Nat):Q:=⟨some d,.mv (.t s),none⟩
attribute [go_sem] Qo Qm
end Go.Ab
namespace Go.Ab
inductive Ty where
 |mk (kind num:Int) (args:List Ty)
def Ty.kind:Ty→Int| .mk k _ _=>k
def Ty.num:Ty→Int| .mk _ n _=>n
def Ty.args:Ty→List Ty| .mk _ _ l=>l
mutual
def Ty.enc:Ty→List DV
 | .mk k n l=>[.int .i64 k,.int .i64 n,.sl (Ty.Nk l)]
def Ty.Nk:List Ty→List (List DV)
 |[]=>[]
 |t::l=>Ty.enc t::Ty.Nk l
end
mutual
def Ty.size:Ty→Nat
 | .mk _ _ l=>1+Ty.Ar l
def Ty.Ar:List Ty→Nat
 |[]=>0
 |t::l=>Ty.size t+Ty.Ar l
end
def tyA (t:Ty):AV:= .agg (t.enc.map AV.d)
def AD8 (l:List Ty):AV:= .d (.sl (Ty.Nk l))
theorem Fl {α:Type} {l:List α} {i:Nat} {x:α} (h:l[i]?=some x):l.take (i+1)=l.take i++[x]:=by
 rw [List.take_add_one,h];rfl
theorem Cw:∀(l m:List Ty),Ty.Ar (l++m)=Ty.Ar l+Ty.Ar m
 |[],m=>by simp [Ty.Ar]
 |u::l,m=>by simp only [A0,Ty.Ar,Cw l m];omega
theorem size_pos:∀t:Ty,1≤t.size
 | .mk _ _ _=>by simp [Ty.size]
theorem Ds:∀l:List Ty,l.length≤Ty.Ar l
 |[]=>by simp [Ty.Ar]
 |t::l=>by have:=Ds l;have:=size_pos t;simp only [AB,Ty.Ar];omega
end Go.Ab
namespace Go.Ab
abbrev Str:=List UInt8
inductive TE where
 |mk (kind:Int) (name:Str) (args:List TE)
structure CE where
 name:Str
 args:List TE
structure DE where
 name:Str
 vars:List Str
 cons:List CE
mutual
inductive Ex where
 |mk (op:Int) (name:Str) (num:Int) (names:List Str) (kids:List Ex) (alts:List Al)
inductive Al where
 |mk (con:Str) (vars:List Str) (body:Ex)
end
structure FE where
 name:Str
 params:List Str
 body:Ex
structure Pg where
 data:List DE
 Rx:List FE
def B0 (s:Str):List DV:=[.str s]
def ssD (l:List Str):DV:= .sl (l.map B0)
mutual
def TE.enc:TE→List DV
 | .mk k n l=>[.int .i64 k,.str n,.sl (TE.Nk l)]
def TE.Nk:List TE→List (List DV)
 |[]=>[]
 |t::l=>TE.enc t::TE.Nk l
end
theorem TE.Hv:∀l:List TE,TE.Nk l=l.map TE.enc
 |[]=>rfl
 |t::l=>by simp [TE.Nk,TE.Hv l]
theorem TE.A2 (k:Int) (n:Str) (l:List TE):(TE.mk k n l).enc=[.int .i64 k,.str n,.sl (l.map TE.enc)]:=by
 simp [TE.enc,TE.Hv]
mutual
def Ex.enc:Ex→List DV
 | .mk o n u ns ks aS=>[.int .i64 o,.str n,.int .i64 u,ssD ns,.sl (Ex.Nk ks),.sl (Al.Nk aS)]
def Ex.Nk:List Ex→List (List DV)
 |[]=>[]
 |t::l=>Ex.enc t::Ex.Nk l
def Al.enc:Al→List DV
 | .mk c vs b=>.str c::ssD vs::Ex.enc b
def Al.Nk:List Al→List (List DV)
 |[]=>[]
 |t::l=>Al.enc t::Al.Nk l
end
theorem Ex.Hv:∀l:List Ex,Ex.Nk l=l.map Ex.enc
 |[]=>rfl
 |t::l=>by simp [Ex.Nk,Ex.Hv l]
theorem Al.Hv:∀l:List Al,Al.Nk l=l.map Al.enc
 |[]=>rfl
 |t::l=>by simp [Al.Nk,Al.Hv l]
theorem Ex.A2 (o:Int) (n:Str) (u:Int) (ns:List Str) (ks:List Ex) (aS:List Al):(Ex.mk o n u ns ks aS).enc=[.int .i64 o,.str n,.int .i64 u,.sl (ns.map B0),.sl (ks.map Ex.enc),.sl (aS.map Al.enc)]:=by
 simp [Ex.enc,Ex.Hv,Al.Hv,ssD]
theorem Al.A2 (c:Str) (vs:List Str) (o:Int) (n:Str) (u:Int) (ns:List Str) (ks:List Ex) (aS:List Al):(Al.mk c vs (.mk o n u ns ks aS)).enc=[.str c,.sl (vs.map B0),.int .i64 o,.str n,.int .i64 u,.sl (ns.map B0),.sl (ks.map Ex.enc),.sl (aS.map Al.enc)]:=by
 simp [Al.enc,Ex.A2,ssD]
def CE.enc (c:CE):List DV:=[.str c.name,.sl (c.args.map TE.enc)]
def DE.enc (d:DE):List DV:=[.str d.name,.sl (d.vars.map B0),.sl (d.cons.map CE.enc)]
def FE.enc (f:FE):List DV:= .str f.name::.sl (f.params.map B0)::f.body.enc
def Pg.enc (p:Pg):List DV:=[.sl (p.data.map DE.enc),.sl (p.Rx.map FE.enc)]
def teA (t:TE):AV:= .agg (t.enc.map AV.d)
def exA (e:Ex):AV:= .agg (e.enc.map AV.d)
def alA (e:Al):AV:= .agg (e.enc.map AV.d)
def ceA (c:CE):AV:= .agg (c.enc.map AV.d)
def deA (c:DE):AV:= .agg (c.enc.map AV.d)
def feA (c:FE):AV:= .agg (c.enc.map AV.d)
def pgA (p:Pg):AV:= .agg (p.enc.map AV.d)
theorem Ty.Hv:∀l:List Ty,Ty.Nk l=l.map Ty.enc
 |[]=>rfl
 |t::l=>by simp [Ty.Nk,Ty.Hv l]
theorem CR {α:Type} {enc:α→List DV} {l:List α} {i:Nat} {x:α} (h:l[i]?=some x):(l.map enc)[i]?=some (enc x):=by
 rw [BC,h];rfl
theorem Eh {α:Type} {l:List α} {i:Nat} {x:α} (h:l[i]?=some x):l.drop i=x::l.drop (i+1):=by
 have hlt:=(Aa.1 h).1
 rw [List.drop_eq_getElem_cons hlt];congr 1;exact (Aa.1 h).2
theorem C7 {α:Type} {l:List α} {i:Nat} (h:i < l.length):∃x,l[i]?=some x:=⟨l[i],by simp [h]⟩
mutual
def TE.size:TE→Nat
 | .mk _ _ l=>1+TE.Ar l
def TE.Ar:List TE→Nat
 |[]=>0
 |t::l=>TE.size t+TE.Ar l
end
mutual
def Ex.size:Ex→Nat
 | .mk _ _ _ _ ks aS=>1+Ex.Ar ks+Al.Ar aS
def Ex.Ar:List Ex→Nat
 |[]=>0
 |t::l=>Ex.size t+Ex.Ar l
def Al.size:Al→Nat
 | .mk _ _ b=>Ex.size b
def Al.Ar:List Al→Nat
 |[]=>0
 |t::l=>Al.size t+Al.Ar l
end
theorem TE.size_pos:∀t:TE,1≤t.size
 | .mk _ _ _=>by simp [TE.size]
theorem Ex.size_pos:∀t:Ex,1≤t.size
 | .mk _ _ _ _ _ _=>by simp only [Ex.size];omega
theorem TE.KS {l:List TE} {t:TE} (h:t∈l):t.size≤TE.Ar l:=by
 induction l with
 |nil=>cases h
 |cons u l ih=>
  simp only [TE.Ar]
  cases h with
  |head=>omega
  |tail _ h=>have:=ih h;omega
theorem Ex.KS {l:List Ex} {t:Ex} (h:t∈l):t.size≤Ex.Ar l:=by
 induction l with
 |nil=>cases h
 |cons u l ih=>
  simp only [Ex.Ar]
  cases h with
  |head=>omega
  |tail _ h=>have:=ih h;omega
theorem Al.KS {l:List Al} {t:Al} (h:t∈l):t.size≤Al.Ar l:=by
 induction l with
 |nil=>cases h
 |cons u l ih=>
  simp only [Al.Ar]
  cases h with
  |head=>omega
  |tail _ h=>have:=ih h;omega
theorem TE.Ds:∀l:List TE,l.length≤TE.Ar l
 |[]=>by simp [TE.Ar]
 |t::l=>by have:=TE.Ds l;have:=TE.size_pos t;simp only [AB,TE.Ar];omega
theorem Ex.Ds:∀l:List Ex,l.length≤Ex.Ar l
 |[]=>by simp [Ex.Ar]
 |t::l=>by have:=Ex.Ds l;have:=Ex.size_pos t;simp only [AB,Ex.Ar];omega
theorem Al.Ds:∀l:List Al,l.length≤Al.Ar l
 |[]=>by simp [Al.Ar]
 | .mk _ _ b::l=>by have:=Al.Ds l;have:=Ex.size_pos b;simp only [AB,Al.Ar,Al.size];omega
theorem TE.Cw:∀(l m:List TE),TE.Ar (l++m)=TE.Ar l+TE.Ar m
 |[],m=>by simp [TE.Ar]
 |u::l,m=>by simp only [A0,TE.Ar,TE.Cw l m];omega
theorem Ex.Cw:∀(l m:List Ex),Ex.Ar (l++m)=Ex.Ar l+Ex.Ar m
 |[],m=>by simp [Ex.Ar]
 |u::l,m=>by simp only [A0,Ex.Ar,Ex.Cw l m];omega
theorem Al.Cw:∀(l m:List Al),Al.Ar (l++m)=Al.Ar l+Al.Ar m
 |[],m=>by simp [Al.Ar]
 |u::l,m=>by simp only [A0,Al.Ar,Al.Cw l m];omega
end Go.Ab
namespace Go.Ab
open Go.Proofs
variable {args:List AV} {σ:AM} {K:AV→AM→Prop}
theorem mixed:Tryz.prog.follows .mixedOrders=true:=by kernel_rfl
def Zv:C:=(.seq (.seq (.reg [Qm 79 6,
 Qo 80 (.fld (.t 4) 2),
 Qo 81 (.ldl (.t 80) none),
 Qm 82 5,
 Qo 83 (.ix (.t 81) (.t 82) 2),
 Qo 84 (.fld (.t 83) 1),
 Qo 85 (.ld (.t 84) none),
 Qo 86 (.len (.t 85)),
 Qo 87 (.bin .lss (.t 79) (.t 86))] [1,3,4,5,6,87])
 (.cond (.t 87) .skip
 (.exit 4)))
 (.seq (.block 5 (.seq (.reg [Qo 90 (.fld (.t 4) 2),
 Qo 91 (.ldl (.t 90) none),
 Qm 92 5,
 Qo 93 (.ix (.t 91) (.t 92) 2),
 Qo 94 (.fld (.t 93) 1),
 Qo 95 (.ld (.t 94) none),
 Qm 96 6,
 Qo 97 (.ix (.t 95) (.t 96) 3),
 Qo 98 (.ld (.t 97) (some 3)),
 Qo 99 (.call 56 [(.t 98),(.c (.d (.int .i64 40)))]),
 Qo 100 (.un .not (.t 99))] [1,3,4,5,6,100])
 (.cond (.t 100) (.seq (.reg [Qo 2 (.mv (.c (.d (.bool false))))] [2])
 .ret)
 .skip)))
 (.reg [Qm 88 6,
 Qo 89 (.bin .add (.t 88) (.c (.d (.int .i64 1)))),
 Qm 6 89] [1,3,4,5,6])))
def Zw:C:=(.seq (.seq (.reg [Qm 54 5,
 Qo 55 (.fld (.t 4) 2),
 Qo 56 (.ldl (.t 55) none),
 Qo 57 (.len (.t 56)),
 Qo 58 (.bin .lss (.t 54) (.t 57))] [1,3,4,5,58])
 (.cond (.t 58) .skip
 (.exit 2)))
 (.seq (.block 3 (.seq (.seq (.reg [Qo 61 (.fld (.t 4) 2),
 Qo 62 (.ldl (.t 61) none),
 Qm 63 5,
 Qo 64 (.ix (.t 62) (.t 63) 2),
 Qo 65 (.fld (.t 64) 0),
 Qo 66 (.ld (.t 65) none),
 Qo 67 (.call 54 [(.t 66),(.c (.d (.int .i64 2)))]),
 Qo 68 (.un .not (.t 67)),
 Qm 69 68,
 ⟨some 70,.fld (.t 4) 2,some (69,false)⟩,
 ⟨some 71,.ldl (.t 70) none,some (69,false)⟩,
 ⟨some 72,.mv (.t 5),some (69,false)⟩,
 ⟨some 73,.ix (.t 71) (.t 72) 2,some (69,false)⟩,
 ⟨some 74,.fld (.t 73) 1,some (69,false)⟩,
 ⟨some 75,.ld (.t 74) none,some (69,false)⟩,
 ⟨some 76,.len (.t 75),some (69,false)⟩,
 ⟨some 77,.bin .gtr (.t 76) (.c (.d (.int .i64 6))),some (69,false)⟩,
 Qo 78 (.pick (.t 69) (.c (.d (.bool true))) (.t 77))] [1,3,4,5,78])
 (.cond (.t 78) (.seq (.reg [Qo 2 (.mv (.c (.d (.bool false))))] [2])
 .ret)
 .skip))
 (.seq (.reg [Qo 6 (.mv (.c (.d (.int .i64 0))))] [1,3,4,5,6])
 (.block 4 (.loop Zv)))))
 (.reg [Qm 59 5,
 Qo 60 (.bin .add (.t 59) (.c (.d (.int .i64 1)))),
 Qm 5 60] [1,3,4,5])))
def Zx:C:=(.seq (.seq (.reg [Qm 20 3,
 Qo 21 (.fld (.t 1) 0),
 Qo 22 (.ldl (.t 21) none),
 Qo 23 (.len (.t 22)),
 Qo 24 (.bin .lss (.t 20) (.t 23))] [1,3,24])
 (.cond (.t 24) .skip
 (.exit 0)))
 (.seq (.block 1 (.seq (.reg [Qo 27 (.fld (.t 1) 0),
 Qo 28 (.ldl (.t 27) none),
 Qm 29 3,
 Qo 30 (.ix (.t 28) (.t 29) 3),
 Qo 31 (.ld (.t 30) (some 3)),
 Qo 4 (.al [(.d (.str [])),.AY,.AY] false),
 ⟨none,.st (.t 4) (.t 31) 3,none⟩] [1,3,4])
 (.seq (.seq (.reg [Qo 32 (.fld (.t 4) 0),
 Qo 33 (.ldl (.t 32) none),
 Qo 34 (.call 54 [(.t 33),(.c (.d (.int .i64 2)))]),
 Qo 35 (.un .not (.t 34)),
 Qm 36 35,
 ⟨some 37,.fld (.t 4) 1,some (36,false)⟩,
 ⟨some 38,.ldl (.t 37) none,some (36,false)⟩,
 ⟨some 39,.call 55 [(.t 38),(.c (.d (.bool true)))],some (36,false)⟩,
 ⟨some 40,.un .not (.t 39),some (36,false)⟩,
 Qo 41 (.pick (.t 36) (.c (.d (.bool true))) (.t 40)),
 Qm 42 41,
 ⟨some 43,.fld (.t 4) 2,some (42,false)⟩,
 ⟨some 44,.ldl (.t 43) none,some (42,false)⟩,
 ⟨some 45,.len (.t 44),some (42,false)⟩,
 ⟨some 46,.bin .lss (.t 45) (.c (.d (.int .i64 1))),some (42,false)⟩,
 Qo 47 (.pick (.t 42) (.c (.d (.bool true))) (.t 46)),
 Qm 48 47,
 ⟨some 49,.fld (.t 4) 2,some (48,false)⟩,
 ⟨some 50,.ldl (.t 49) none,some (48,false)⟩,
 ⟨some 51,.len (.t 50),some (48,false)⟩,
 ⟨some 52,.bin .gtr (.t 51) (.c (.d (.int .i64 8))),some (48,false)⟩,
 Qo 53 (.pick (.t 48) (.c (.d (.bool true))) (.t 52))] [1,3,4,53])
 (.cond (.t 53) (.seq (.reg [Qo 2 (.mv (.c (.d (.bool false))))] [2])
 .ret)
 .skip))
 (.seq (.reg [Qo 5 (.mv (.c (.d (.int .i64 0))))] [1,3,4,5])
 (.block 2 (.loop Zw))))))
 (.reg [Qm 25 3,
 Qo 26 (.bin .add (.t 25) (.c (.d (.int .i64 1)))),
 Qm 3 26] [1,3])))
def Tn:C:=(.seq (.seq (.reg [Qm 101 8,
 Qo 102 (.fld (.t 1) 1),
 Qo 103 (.ldl (.t 102) none),
 Qo 104 (.len (.t 103)),
 Qo 105 (.bin .lss (.t 101) (.t 104))] [1,7,8,105])
 (.cond (.t 105) .skip
 (.exit 6)))
 (.seq (.block 7 (.seq (.reg [Qo 108 (.fld (.t 1) 1),
 Qo 109 (.ldl (.t 108) none),
 Qm 110 8,
 Qo 111 (.ix (.t 109) (.t 110) 8),
 Qo 112 (.ld (.t 111) (some 8)),
 Qo 9 (.al [(.d (.str [])),.AY,(.d (.int .i64 0)),(.d (.str [])),(.d (.int .i64 0)),.AY,.AY,.AY] false),
 ⟨none,.st (.t 9) (.t 112) 8,none⟩] [1,7,8,9])
 (.seq (.reg [Qo 113 (.fld (.t 9) 0),
 Qo 114 (.ldl (.t 113) none),
 Qo 115 (.call 54 [(.t 114),(.c (.d (.int .i64 1)))]),
 Qo 116 (.un .not (.t 115)),
 Qm 117 116,
 ⟨some 118,.fld (.t 9) 1,some (117,false)⟩,
 ⟨some 119,.ldl (.t 118) none,some (117,false)⟩,
 ⟨some 120,.call 55 [(.t 119),(.c (.d (.bool true)))],some (117,false)⟩,
 ⟨some 121,.un .not (.t 120),some (117,false)⟩,
 Qo 122 (.pick (.t 117) (.c (.d (.bool true))) (.t 121)),
 Qm 123 122,
 ⟨some 124,.fld (.t 9) 2,some (123,false)⟩,
 ⟨some 125,.ldl (.t 124) (some 6),some (123,false)⟩,
 ⟨some 126,.call 57 [(.t 125),(.c (.d (.int .i64 40))),(.t 7)],some (123,false)⟩,
 ⟨some 127,.un .not (.t 126),some (123,false)⟩,
 Qo 128 (.pick (.t 123) (.c (.d (.bool true))) (.t 127))] [1,7,8,128])
 (.cond (.t 128) (.seq (.reg [Qo 2 (.mv (.c (.d (.bool false))))] [2])
 .ret)
 .skip))))
 (.reg [Qm 106 8,
 Qo 107 (.bin .add (.t 106) (.c (.d (.int .i64 1)))),
 Qm 8 107] [1,7,8])))
def YK:C:=(.seq (.reg [Qo 1 (.box (.t 0) false),
 Qo 2 (.mv (.c (.d (.bool false))))] [1])
 (.seq (.seq (.reg [Qo 10 (.fld (.t 1) 0),
 Qo 11 (.ldl (.t 10) none),
 Qo 12 (.len (.t 11)),
 Qo 13 (.bin .gtr (.t 12) (.c (.d (.int .i64 12)))),
 Qm 14 13,
 ⟨some 15,.fld (.t 1) 1,some (14,false)⟩,
 ⟨some 16,.ldl (.t 15) none,some (14,false)⟩,
 ⟨some 17,.len (.t 16),some (14,false)⟩,
 ⟨some 18,.bin .gtr (.t 17) (.c (.d (.int .i64 24))),some (14,false)⟩,
 Qo 19 (.pick (.t 14) (.c (.d (.bool true))) (.t 18))] [1,19])
 (.cond (.t 19) (.seq (.reg [Qo 2 (.mv (.c (.d (.bool false))))] [2])
 .ret)
 .skip))
 (.seq (.seq (.reg [Qo 3 (.mv (.c (.d (.int .i64 0))))] [1,3])
 (.block 0 (.loop Zx)))
 (.seq (.reg [Qo 7 (.ex (.alt 3 [(.d (.int .i64 0))]) []),
 ⟨none,.st (.t 7) (.c (.d (.int .i64 600))) 1,none⟩] [1,7])
 (.seq (.seq (.reg [Qo 8 (.mv (.c (.d (.int .i64 0))))] [1,7,8])
 (.block 6 (.loop Tn)))
 (.seq (.reg [Qo 2 (.mv (.c (.d (.bool true))))] [2])
 .ret))))))
noncomputable def Ka:Cx:=⟨Tryz.prog,20,Tryz.f20,129,[7,300011,300016,300022,300028,300033,300038,300044,300050,300056,300062,300071,300081,300091,300103,300109,300114,300119,300125],[],[.t 2]⟩
theorem DM:Good Ka:=⟨Tryz.func20,by kernel_rfl⟩
theorem iO:Ka.rs=[.t 2]:=rfl
theorem kO (hl:args.length≤129) (h:Run Ka K [.code YK] (At args) E σ):AP Tryz.prog 20 args σ K:=
 AX (cx:=Ka) (code:=Tryz.f20.body.getD .skip) DM (by kernel_rfl) Tryz.ntmps20 hl (AZ Ka _ (Ax YK) _ [] (by kernel_rfl)) h
def VC:C:=(.seq (.reg [Qo 22 (.bin .lss (.t 21) (.t 20))] [1,19,20,21,22])
 (.seq (.cond (.t 22) .skip
 (.exit 0))
 (.seq (.block 1 (.seq (.reg [Qo 23 (.ix (.t 19) (.t 21) 3),
 Qo 24 (.ld (.t 23) (some 3)),
 Qo 4 (.al [(.d (.str [])),.AY,.AY] false),
 ⟨none,.st (.t 4) (.t 24) 3,none⟩] [1,4,19,20,21])
 (.seq (.reg [Qo 25 (.ldl (.t 4) (some 3)),
 Qo 26 (.call 50 [(.t 25)]),
 Qo 27 (.un .not (.t 26))] [1,19,20,21,27])
 (.cond (.t 27) (.seq (.reg [Qo 2 (.mv (.c (.d (.bool false))))] [2])
 .ret)
 .skip))))
 (.reg [Qo 28 (.bin .add (.t 21) (.c (.d (.int .i64 1)))),
 Qm 21 28] [1,19,20,21]))))
def VD:C:=(.seq (.reg [Qo 35 (.bin .lss (.t 34) (.t 33))] [5,32,33,34,35])
 (.seq (.cond (.t 35) .skip
 (.exit 2))
 (.seq (.block 3 (.seq (.reg [Qo 36 (.ix (.t 32) (.t 34) 8),
 Qo 37 (.ld (.t 36) (some 8)),
 Qo 7 (.al [(.d (.str [])),.AY,(.d (.int .i64 0)),(.d (.str [])),(.d (.int .i64 0)),.AY,.AY,.AY] false),
 ⟨none,.st (.t 7) (.t 37) 8,none⟩] [5,7,32,33,34])
 (.seq (.reg [Qo 38 (.fld (.t 7) 0),
 Qo 39 (.ldl (.t 38) none),
 Qo 40 (.call 51 [(.t 39)]),
 Qo 41 (.un .not (.t 40)),
 Qm 42 41,
 ⟨some 43,.fld (.t 7) 1,some (42,false)⟩,
 ⟨some 44,.ldl (.t 43) none,some (42,false)⟩,
 ⟨some 45,.len (.t 44),some (42,false)⟩,
 ⟨some 46,.bin .gtr (.t 45) (.c (.d (.int .i64 6))),some (42,false)⟩,
 Qo 47 (.pick (.t 42) (.c (.d (.bool true))) (.t 46)),
 Qm 48 47,
 ⟨some 49,.fld (.t 7) 1,some (48,false)⟩,
 ⟨some 50,.ldl (.t 49) none,some (48,false)⟩,
 ⟨some 51,.call 52 [(.t 50),(.c (.fn 51 [] []))],some (48,false)⟩,
 ⟨some 52,.un .not (.t 51),some (48,false)⟩,
 Qo 53 (.pick (.t 48) (.c (.d (.bool true))) (.t 52)),
 Qm 54 53,
 ⟨some 55,.mv (.t 5),some (54,false)⟩,
 ⟨some 56,.fld (.t 7) 2,some (54,false)⟩,
 ⟨some 57,.ldl (.t 56) (some 6),some (54,false)⟩,
 ⟨some 58,.call 53 [(.t 55),(.t 57),(.c (.d (.int .i64 1)))],some (54,false)⟩,
 ⟨some 59,.un .not (.t 58),some (54,false)⟩,
 Qo 60 (.pick (.t 54) (.c (.d (.bool true))) (.t 59))] [5,32,33,34,60])
 (.cond (.t 60) (.seq (.reg [Qo 2 (.mv (.c (.d (.bool false))))] [2])
 .ret)
 .skip))))
 (.reg [Qo 61 (.bin .add (.t 34) (.c (.d (.int .i64 1)))),
 Qm 34 61] [5,32,33,34]))))
def Ro:C:=(.seq (.reg [Qo 1 (.box (.t 0) false),
 Qo 2 (.mv (.c (.d (.bool false))))] [1])
 (.seq (.seq (.reg [Qo 8 (.fld (.t 1) 0),
 Qo 9 (.ldl (.t 8) none),
 Qo 10 (.len (.t 9)),
 Qo 11 (.bin .gtr (.t 10) (.c (.d (.int .i64 12)))),
 Qm 12 11,
 ⟨some 13,.fld (.t 1) 1,some (12,false)⟩,
 ⟨some 14,.ldl (.t 13) none,some (12,false)⟩,
 ⟨some 15,.len (.t 14),some (12,false)⟩,
 ⟨some 16,.bin .gtr (.t 15) (.c (.d (.int .i64 24))),some (12,false)⟩,
 Qo 17 (.pick (.t 12) (.c (.d (.bool true))) (.t 16))] [1,17])
 (.cond (.t 17) (.seq (.reg [Qo 2 (.mv (.c (.d (.bool false))))] [2])
 .ret)
 .skip))
 (.seq (.seq (.reg [Qo 18 (.fld (.t 1) 0),
 Qo 19 (.ldl (.t 18) none),
 Qo 20 (.len (.t 19)),
 Qo 21 (.mv (.c (.d (.int .i64 0))))] [1,19,20,21])
 (.block 0 (.loop VC)))
 (.seq (.reg [Qo 29 (.bld [(.d (.int .i64 0))] []),
 Qo 30 (.box (.t 29) true),
 Qm 5 30] [1,5])
 (.seq (.seq (.reg [Qo 31 (.fld (.t 1) 1),
 Qo 32 (.ldl (.t 31) none),
 Qo 33 (.len (.t 32)),
 Qo 34 (.mv (.c (.d (.int .i64 0))))] [5,32,33,34])
 (.block 2 (.loop VD)))
 (.seq (.reg [Qo 2 (.mv (.c (.d (.bool true))))] [2])
 .ret))))))
noncomputable def HX:Cx:=⟨Tryz.prog,19,Tryz.f19,62,[30,300009,300014,300019,300025,300032,300039,300044,300050,300057],[],[.t 2]⟩
theorem DN:Good HX:=⟨Tryz.func19,by kernel_rfl⟩
theorem XY:HX.rs=[.t 2]:=rfl
theorem Yb (hl:args.length≤62) (h:Run HX K [.code Ro] (At args) E σ):AP Tryz.prog 19 args σ K:=
 AX (cx:=HX) (code:=Tryz.f19.body.getD .skip) DN (by kernel_rfl) Tryz.ntmps19 hl (AZ HX _ (Ax Ro) _ [] (by kernel_rfl)) h
def Wd:C:=(.seq (.reg [Qo 4 (.mv (.c (.d (.bool false))))] [0,1])
 (.seq (.reg [Qm 9 0,
 Qo 10 (.call 29 [(.t 9)]),
 Qm 8 10,
 Qo 11 (.ext (.t 8) 0),
 Qo 12 (.ext (.t 8) 1),
 Qo 13 (.ext (.t 8) 2),
 Qm 5 11,
 Qm 6 12,
 Qm 7 13] [0,1,5,7])
 (.seq (.reg [Qm 14 7,
 Qo 15 (.bin .eql (.t 14) (.c (.d (.int .i64 0)))),
 Qm 16 15,
 ⟨some 17,.mv (.t 5),some (16,true)⟩,
 ⟨some 18,.len (.t 17),some (16,true)⟩,
 ⟨some 19,.bin .eql (.t 18) (.c (.d (.int .i64 2))),some (16,true)⟩,
 Qo 20 (.pick (.t 16) (.t 19) (.c (.d (.bool false)))),
 Qm 21 20,
 ⟨some 22,.mv (.t 5),some (21,true)⟩,
 ⟨some 23,.ix (.t 22) (.c (.d (.int .i64 0))) 3,some (21,true)⟩,
 ⟨some 24,.fld (.t 23) 0,some (21,true)⟩,
 ⟨some 25,.ld (.t 24) none,some (21,true)⟩,
 ⟨some 26,.mv (.t 1),some (21,true)⟩,
 ⟨some 27,.bin .eql (.t 25) (.t 26),some (21,true)⟩,
 Qo 28 (.pick (.t 21) (.t 27) (.c (.d (.bool false)))),
 Qm 29 28,
 ⟨some 30,.mv (.t 5),some (29,true)⟩,
 ⟨some 31,.ix (.t 30) (.c (.d (.int .i64 0))) 3,some (29,true)⟩,
 ⟨some 32,.fld (.t 31) 1,some (29,true)⟩,
 ⟨some 33,.ld (.t 32) none,some (29,true)⟩,
 ⟨some 34,.mv (.t 0),some (29,true)⟩,
 ⟨some 35,.bin .eql (.t 33) (.t 34),some (29,true)⟩,
 Qo 36 (.pick (.t 29) (.t 35) (.c (.d (.bool false)))),
 Qm 4 36] [4])
 .ret)))
noncomputable def L6:Cx:=⟨Tryz.prog,54,Tryz.f54,37,[],[],[.t 4]⟩
theorem LD:Good L6:=⟨Tryz.func54,by kernel_rfl⟩
theorem eR:L6.rs=[.t 4]:=rfl
theorem gF (hl:args.length≤37) (h:Run L6 K [.code Wd] (At args) E σ):AP Tryz.prog 54 args σ K:=
 AX (cx:=L6) (code:=Tryz.f54.body.getD .skip) LD (by kernel_rfl) Tryz.ntmps54 hl (AZ L6 _ (Ax Wd) _ [] (by kernel_rfl)) h
def Zy:C:=(.seq (.seq (.reg [Qm 9 5,
 Qm 10 0,
 Qo 11 (.len (.t 10)),
 Qo 12 (.bin .lss (.t 9) (.t 11))] [0,1,5,12])
 (.cond (.t 12) .skip
 (.exit 0)))
 (.seq (.block 1 (.seq (.reg [Qm 15 0,
 Qm 16 5,
 Qo 17 (.ix (.t 15) (.t 16) 1),
 Qo 18 (.ld (.t 17) none),
 Qo 19 (.call 54 [(.t 18),(.c (.d (.int .i64 1)))]),
 Qm 20 19,
 ⟨some 21,.mv (.t 0),some (20,false)⟩,
 ⟨some 22,.mv (.t 5),some (20,false)⟩,
 ⟨some 23,.ix (.t 21) (.t 22) 1,some (20,false)⟩,
 ⟨some 24,.ld (.t 23) none,some (20,false)⟩,
 ⟨some 25,.bin .eql (.t 24) (.c (.d (.str []))),some (20,false)⟩,
 ⟨some 26,.mv (.t 25),some (20,false)⟩,
 ⟨some 27,.mv (.t 1),some (26,true)⟩,
 ⟨some 28,.un .not (.t 27),some (26,true)⟩,
 ⟨some 29,.pick (.t 26) (.t 28) (.c (.d (.bool false))),some (20,false)⟩,
 Qo 30 (.pick (.t 20) (.c (.d (.bool true))) (.t 29)),
 Qo 31 (.un .not (.t 30))] [0,1,5,31])
 (.cond (.t 31) (.seq (.reg [Qo 4 (.mv (.c (.d (.bool false))))] [4])
 .ret)
 .skip)))
 (.reg [Qm 13 5,
 Qo 14 (.bin .add (.t 13) (.c (.d (.int .i64 1)))),
 Qm 5 14] [0,1,5])))
def YL:C:=(.seq (.reg [Qo 4 (.mv (.c (.d (.bool false))))] [0,1])
 (.seq (.seq (.reg [Qm 6 0,
 Qo 7 (.len (.t 6)),
 Qo 8 (.bin .gtr (.t 7) (.c (.d (.int .i64 6))))] [0,1,8])
 (.cond (.t 8) (.seq (.reg [Qo 4 (.mv (.c (.d (.bool false))))] [4])
 .ret)
 .skip))
 (.seq (.seq (.reg [Qo 5 (.mv (.c (.d (.int .i64 0))))] [0,1,5])
 (.block 0 (.loop Zy)))
 (.seq (.reg [Qo 4 (.mv (.c (.d (.bool true))))] [4])
 .ret))))
noncomputable def Nb:Cx:=⟨Tryz.prog,55,Tryz.f55,32,[],[],[.t 4]⟩
theorem NB:Good Nb:=⟨Tryz.func55,by kernel_rfl⟩
theorem iP:Nb.rs=[.t 4]:=rfl
theorem kP (hl:args.length≤32) (h:Run Nb K [.code YL] (At args) E σ):AP Tryz.prog 55 args σ K:=
 AX (cx:=Nb) (code:=Tryz.f55.body.getD .skip) NB (by kernel_rfl) Tryz.ntmps55 hl (AZ Nb _ (Ax YL) _ [] (by kernel_rfl)) h
def OE:C:=(.seq (.seq (.reg [Qm 80 6,
 Qm 81 5,
 Qo 82 (.bin .lss (.t 80) (.t 81))] [1,2,5,6,82])
 (.cond (.t 82) .skip
 (.exit 1)))
 (.seq (.block 2 (.seq (.reg [Qo 85 (.fld (.t 2) 2),
 Qo 86 (.ldl (.t 85) none),
 Qm 87 6,
 Qo 88 (.ix (.t 86) (.t 87) 3),
 Qo 89 (.ld (.t 88) (some 3)),
 Qm 90 1,
 Qo 91 (.bin .sub (.t 90) (.c (.d (.int .i64 1)))),
 Qo 92 (.call 56 [(.t 89),(.t 91)]),
 Qo 93 (.un .not (.t 92))] [1,2,5,6,93])
 (.cond (.t 93) (.seq (.reg [Qo 4 (.mv (.c (.d (.bool false))))] [4])
 .ret)
 .skip)))
 (.reg [Qm 83 6,
 Qo 84 (.bin .add (.t 83) (.c (.d (.int .i64 1)))),
 Qm 6 84] [1,2,5,6])))
def Rm:C:=(.seq (.reg [Qo 2 (.box (.t 0) false),
 Qo 4 (.mv (.c (.d (.bool false))))] [1,2])
 (.seq (.seq (.reg [Qm 7 1,
 Qo 8 (.bin .eql (.t 7) (.c (.d (.int .i64 0))))] [1,2,8])
 (.cond (.t 8) (.seq (.reg [Qo 4 (.mv (.c (.d (.bool false))))] [4])
 .ret)
 .skip))
 (.seq (.reg [Qo 9 (.fld (.t 2) 2),
 Qo 10 (.ldl (.t 9) none),
 Qo 11 (.len (.t 10)),
 Qm 5 11] [1,2,5])
 (.seq (.seq (.reg [Qo 12 (.fld (.t 2) 0),
 Qo 13 (.ldl (.t 12) none)] [1,2,5,13])
 (.block 0 (.seq (.seq (.reg [Qo 15 (.bin .eql (.t 13) (.c (.d (.int .i64 1)))),
 Qm 14 15] [1,2,5,13,14])
 (.cond (.t 14) .skip
 (.seq (.reg [Qo 16 (.bin .eql (.t 13) (.c (.d (.int .i64 2)))),
 Qm 14 16] [1,2,5,13,14])
 (.cond (.t 14) .skip
 (.reg [Qo 17 (.bin .eql (.t 13) (.c (.d (.int .i64 3)))),
 Qm 14 17] [1,2,5,13,14])))))
 (.cond (.t 14) (.seq (.reg [Qo 18 (.fld (.t 2) 1),
 Qo 19 (.ldl (.t 18) none),
 Qo 20 (.bin .eql (.t 19) (.c (.d (.str [])))),
 Qm 21 20,
 ⟨some 22,.mv (.t 5),some (21,true)⟩,
 ⟨some 23,.bin .eql (.t 22) (.c (.d (.int .i64 0))),some (21,true)⟩,
 Qo 24 (.pick (.t 21) (.t 23) (.c (.d (.bool false)))),
 Qm 4 24] [4])
 .ret)
 (.seq (.reg [Qo 26 (.bin .eql (.t 13) (.c (.d (.int .i64 4)))),
 Qm 25 26] [1,2,5,13,25])
 (.cond (.t 25) (.seq (.reg [Qo 27 (.fld (.t 2) 1),
 Qo 28 (.ldl (.t 27) none),
 Qo 29 (.call 54 [(.t 28),(.c (.d (.int .i64 1)))]),
 Qm 30 29,
 ⟨some 31,.mv (.t 5),some (30,true)⟩,
 ⟨some 32,.bin .eql (.t 31) (.c (.d (.int .i64 0))),some (30,true)⟩,
 Qo 33 (.pick (.t 30) (.t 32) (.c (.d (.bool false)))),
 Qm 4 33] [4])
 .ret)
 (.seq (.reg [Qo 35 (.bin .eql (.t 13) (.c (.d (.int .i64 5)))),
 Qm 34 35] [1,2,5,13,34])
 (.cond (.t 34) (.seq (.reg [Qo 36 (.fld (.t 2) 1),
 Qo 37 (.ldl (.t 36) none),
 Qo 38 (.call 54 [(.t 37),(.c (.d (.int .i64 2)))]),
 Qo 39 (.un .not (.t 38)),
 Qm 40 39,
 ⟨some 41,.mv (.t 5),some (40,false)⟩,
 ⟨some 42,.bin .gtr (.t 41) (.c (.d (.int .i64 6))),some (40,false)⟩,
 Qo 43 (.pick (.t 40) (.c (.d (.bool true))) (.t 42))] [1,2,5,43])
 (.cond (.t 43) (.seq (.reg [Qo 4 (.mv (.c (.d (.bool false))))] [4])
 .ret)
 .skip))
 (.seq (.reg [Qo 45 (.bin .eql (.t 13) (.c (.d (.int .i64 6)))),
 Qm 44 45] [1,2,5,13,44])
 (.cond (.t 44) (.seq (.reg [Qo 46 (.fld (.t 2) 1),
 Qo 47 (.ldl (.t 46) none),
 Qo 48 (.bin .neq (.t 47) (.c (.d (.str [])))),
 Qm 49 48,
 ⟨some 50,.mv (.t 5),some (49,false)⟩,
 ⟨some 51,.bin .lss (.t 50) (.c (.d (.int .i64 2))),some (49,false)⟩,
 Qo 52 (.pick (.t 49) (.c (.d (.bool true))) (.t 51)),
 Qm 53 52,
 ⟨some 54,.mv (.t 5),some (53,false)⟩,
 ⟨some 55,.bin .gtr (.t 54) (.c (.d (.int .i64 6))),some (53,false)⟩,
 Qo 56 (.pick (.t 53) (.c (.d (.bool true))) (.t 55))] [1,2,5,56])
 (.cond (.t 56) (.seq (.reg [Qo 4 (.mv (.c (.d (.bool false))))] [4])
 .ret)
 .skip))
 (.seq (.seq (.reg [Qo 58 (.bin .eql (.t 13) (.c (.d (.int .i64 7)))),
 Qm 57 58] [1,2,5,13,57])
 (.cond (.t 57) .skip
 (.reg [Qo 59 (.bin .eql (.t 13) (.c (.d (.int .i64 8)))),
 Qm 57 59] [1,2,5,13,57])))
 (.cond (.t 57) (.seq (.reg [Qo 60 (.fld (.t 2) 1),
 Qo 61 (.ldl (.t 60) none),
 Qo 62 (.bin .neq (.t 61) (.c (.d (.str [])))),
 Qm 63 62,
 ⟨some 64,.mv (.t 5),some (63,false)⟩,
 ⟨some 65,.bin .neq (.t 64) (.c (.d (.int .i64 1))),some (63,false)⟩,
 Qo 66 (.pick (.t 63) (.c (.d (.bool true))) (.t 65))] [1,2,5,66])
 (.cond (.t 66) (.seq (.reg [Qo 4 (.mv (.c (.d (.bool false))))] [4])
 .ret)
 .skip))
 (.seq (.reg [Qo 68 (.bin .eql (.t 13) (.c (.d (.int .i64 9)))),
 Qm 67 68] [1,2,5,67])
 (.cond (.t 67) (.seq (.reg [Qo 69 (.fld (.t 2) 1),
 Qo 70 (.ldl (.t 69) none),
 Qo 71 (.bin .neq (.t 70) (.c (.d (.str [])))),
 Qm 72 71,
 ⟨some 73,.mv (.t 5),some (72,false)⟩,
 ⟨some 74,.bin .lss (.t 73) (.c (.d (.int .i64 1))),some (72,false)⟩,
 Qo 75 (.pick (.t 72) (.c (.d (.bool true))) (.t 74)),
 Qm 76 75,
 ⟨some 77,.mv (.t 5),some (76,false)⟩,
 ⟨some 78,.bin .gtr (.t 77) (.c (.d (.int .i64 7))),some (76,false)⟩,
 Qo 79 (.pick (.t 76) (.c (.d (.bool true))) (.t 78))] [1,2,5,79])
 (.cond (.t 79) (.seq (.reg [Qo 4 (.mv (.c (.d (.bool false))))] [4])
 .ret)
 .skip))
 (.seq (.reg [Qo 4 (.mv (.c (.d (.bool false))))] [4])
 .ret)))))))))))))))
 (.seq (.seq (.reg [Qo 6 (.mv (.c (.d (.int .i64 0))))] [1,2,5,6])
 (.block 1 (.loop OE)))
 (.seq (.reg [Qo 4 (.mv (.c (.d (.bool true))))] [4])
 .ret))))))
noncomputable def Fp:Cx:=⟨Tryz.prog,56,Tryz.f56,94,[300010,300013,300019,300028,300037,300047,300061,300070,300086],[],[.t 4]⟩
theorem HG:Good Fp:=⟨Tryz.func56,by kernel_rfl⟩
theorem XV:Fp.rs=[.t 4]:=rfl
theorem SD (hl:args.length≤94) (h:Run Fp K [.code Rm] (At args) E σ):AP Tryz.prog 56 args σ K:=
 AX (cx:=Fp) (code:=Tryz.f56.body.getD .skip) HG (by kernel_rfl) Tryz.ntmps56 hl (AZ Fp _ (Ax Rm) _ [] (by kernel_rfl)) h
def OC:C:=(.seq (.seq (.reg [Qm 202 13,
 Qo 203 (.fld (.t 3) 4),
 Qo 204 (.ldl (.t 203) none),
 Qo 205 (.len (.t 204)),
 Qo 206 (.bin .lss (.t 202) (.t 205))] [1,2,3,13,206])
 (.cond (.t 206) .skip
 (.exit 1)))
 (.seq (.block 2 (.seq (.reg [Qo 209 (.fld (.t 3) 4),
 Qo 210 (.ldl (.t 209) none),
 Qm 211 13,
 Qo 212 (.ix (.t 210) (.t 211) 6),
 Qo 213 (.ld (.t 212) (some 6)),
 Qm 214 1,
 Qo 215 (.bin .sub (.t 214) (.c (.d (.int .i64 1)))),
 Qm 216 2,
 Qo 217 (.call 57 [(.t 213),(.t 215),(.t 216)]),
 Qo 218 (.un .not (.t 217))] [1,2,3,13,218])
 (.cond (.t 218) (.seq (.reg [Qo 6 (.mv (.c (.d (.bool false))))] [6])
 .ret)
 .skip)))
 (.reg [Qm 207 13,
 Qo 208 (.bin .add (.t 207) (.c (.d (.int .i64 1)))),
 Qm 13 208] [1,2,3,13])))
def OD:C:=(.seq (.seq (.reg [Qm 219 14,
 Qo 220 (.fld (.t 3) 5),
 Qo 221 (.ldl (.t 220) none),
 Qo 222 (.len (.t 221)),
 Qo 223 (.bin .lss (.t 219) (.t 222))] [1,2,3,14,223])
 (.cond (.t 223) .skip
 (.exit 3)))
 (.seq (.block 4 (.seq (.reg [Qo 226 (.fld (.t 3) 5),
 Qo 227 (.ldl (.t 226) none),
 Qm 228 14,
 Qo 229 (.ix (.t 227) (.t 228) 8),
 Qo 230 (.ld (.t 229) (some 8)),
 Qo 15 (.al [(.d (.str [])),.AY,(.d (.int .i64 0)),(.d (.str [])),(.d (.int .i64 0)),.AY,.AY,.AY] false),
 ⟨none,.st (.t 15) (.t 230) 8,none⟩] [1,2,3,14,15])
 (.seq (.reg [Qo 231 (.fld (.t 15) 0),
 Qo 232 (.ldl (.t 231) none),
 Qo 233 (.call 54 [(.t 232),(.c (.d (.int .i64 2)))]),
 Qo 234 (.un .not (.t 233)),
 Qm 235 234,
 ⟨some 236,.fld (.t 15) 1,some (235,false)⟩,
 ⟨some 237,.ldl (.t 236) none,some (235,false)⟩,
 ⟨some 238,.call 55 [(.t 237),(.c (.d (.bool false)))],some (235,false)⟩,
 ⟨some 239,.un .not (.t 238),some (235,false)⟩,
 Qo 240 (.pick (.t 235) (.c (.d (.bool true))) (.t 239)),
 Qm 241 240,
 ⟨some 242,.fld (.t 15) 2,some (241,false)⟩,
 ⟨some 243,.ldl (.t 242) (some 6),some (241,false)⟩,
 ⟨some 244,.mv (.t 1),some (241,false)⟩,
 ⟨some 245,.bin .sub (.t 244) (.c (.d (.int .i64 1))),some (241,false)⟩,
 ⟨some 246,.mv (.t 2),some (241,false)⟩,
 ⟨some 247,.call 57 [(.t 243),(.t 245),(.t 246)],some (241,false)⟩,
 ⟨some 248,.un .not (.t 247),some (241,false)⟩,
 Qo 249 (.pick (.t 241) (.c (.d (.bool true))) (.t 248))] [1,2,3,14,249])
 (.cond (.t 249) (.seq (.reg [Qo 6 (.mv (.c (.d (.bool false))))] [6])
 .ret)
 .skip))))
 (.reg [Qm 224 14,
 Qo 225 (.bin .add (.t 224) (.c (.d (.int .i64 1)))),
 Qm 14 225] [1,2,3,14])))
def YS:C:=(.seq (.reg [Qo 3 (.box (.t 0) false),
 Qo 6 (.mv (.c (.d (.bool false))))] [1,2,3])
 (.seq (.seq (.reg [Qm 16 1,
 Qo 17 (.bin .eql (.t 16) (.c (.d (.int .i64 0)))),
 Qm 18 17,
 ⟨some 19,.mv (.t 2),some (18,false)⟩,
 ⟨some 20,.nck (.t 19),some (18,false)⟩,
 ⟨some 21,.ld (.t 20) none,some (18,false)⟩,
 ⟨some 22,.bin .eql (.t 21) (.c (.d (.int .i64 0))),some (18,false)⟩,
 Qo 23 (.pick (.t 18) (.c (.d (.bool true))) (.t 22))] [1,2,3,23])
 (.cond (.t 23) (.seq (.reg [Qo 6 (.mv (.c (.d (.bool false))))] [6])
 .ret)
 .skip))
 (.seq (.reg [Qm 24 2,
 Qo 25 (.nck (.t 24)),
 Qo 26 (.ld (.t 25) none),
 Qo 27 (.bin .sub (.t 26) (.c (.d (.int .i64 1)))),
 Qo 28 (.nck (.t 24)),
 ⟨none,.st (.t 28) (.t 27) 1,none⟩] [1,2,3])
 (.seq (.reg [Qo 7 (.mv (.c (.d (.bool false)))),
 Qo 8 (.mv (.c (.d (.bool false)))),
 Qo 9 (.mv (.c (.d (.bool false)))),
 Qo 10 (.mv (.c (.d (.bool false))))] [1,2,3,7,8,9,10])
 (.seq (.reg [Qo 11 (.mv (.c (.d (.int .i64 0)))),
 Qo 12 (.mv (.c (.d (.int .i64 0))))] [1,2,3,7,8,9,10,11,12])
 (.seq (.seq (.reg [Qo 29 (.fld (.t 3) 0),
 Qo 30 (.ldl (.t 29) none)] [1,2,3,7,8,9,10,11,12,30])
 (.block 0 (.seq (.reg [Qo 32 (.bin .eql (.t 30) (.c (.d (.int .i64 1)))),
 Qm 31 32] [1,2,3,7,8,9,10,11,12,30,31])
 (.cond (.t 31) .skip
 (.seq (.reg [Qo 34 (.bin .eql (.t 30) (.c (.d (.int .i64 2)))),
 Qm 33 34] [1,2,3,7,8,9,10,11,12,30,33])
 (.cond (.t 33) (.reg [Qo 35 (.fld (.t 3) 2),
 Qo 36 (.ldl (.t 35) none),
 Qo 37 (.bin .eql (.t 36) (.c (.d (.int .i64 0)))),
 Qm 38 37,
 ⟨some 39,.fld (.t 3) 2,some (38,false)⟩,
 ⟨some 40,.ldl (.t 39) none,some (38,false)⟩,
 ⟨some 41,.bin .eql (.t 40) (.c (.d (.int .i64 1))),some (38,false)⟩,
 Qo 42 (.pick (.t 38) (.c (.d (.bool true))) (.t 41)),
 Qm 8 42] [1,2,3,7,8,9,10,11,12])
 (.seq (.reg [Qo 44 (.bin .eql (.t 30) (.c (.d (.int .i64 3)))),
 Qm 43 44] [1,2,3,7,8,9,10,11,12,30,43])
 (.cond (.t 43) (.reg [Qo 45 (.fld (.t 3) 2),
 Qo 46 (.ldl (.t 45) none),
 Qo 47 (.bin .geq (.t 46) (.c (.d (.int .i64 (-1000000))))),
 Qm 48 47,
 ⟨some 49,.fld (.t 3) 2,some (48,true)⟩,
 ⟨some 50,.ldl (.t 49) none,some (48,true)⟩,
 ⟨some 51,.bin .leq (.t 50) (.c (.d (.int .i64 1000000))),some (48,true)⟩,
 Qo 52 (.pick (.t 48) (.t 51) (.c (.d (.bool false)))),
 Qm 8 52] [1,2,3,7,8,9,10,11,12])
 (.seq (.reg [Qo 54 (.bin .eql (.t 30) (.c (.d (.int .i64 4)))),
 Qm 53 54] [1,2,3,7,8,9,10,11,12,30,53])
 (.cond (.t 53) (.seq (.reg [Qo 55 (.fld (.t 3) 1),
 Qo 56 (.ldl (.t 55) none),
 Qo 57 (.call 54 [(.t 56),(.c (.d (.int .i64 1)))]),
 Qm 7 57] [1,2,3,7,8,9,10,11,12])
 (.seq (.reg [Qm 58 7,
 Qo 59 (.un .not (.t 58))] [1,2,3,7,8,9,10,11,12,59])
 (.cond (.t 59) (.seq (.reg [Qo 6 (.mv (.c (.d (.bool false))))] [6])
 .ret)
 .skip)))
 (.seq (.reg [Qo 61 (.bin .eql (.t 30) (.c (.d (.int .i64 5)))),
 Qm 60 61] [1,2,3,7,8,9,10,11,12,30,60])
 (.cond (.t 60) (.reg [Qo 11 (.mv (.c (.d (.int .i64 2)))),
 Qo 12 (.mv (.c (.d (.int .i64 6))))] [1,2,3,7,8,9,10,11,12])
 (.seq (.reg [Qo 63 (.bin .eql (.t 30) (.c (.d (.int .i64 6)))),
 Qm 62 63] [1,2,3,7,8,9,10,11,12,30,62])
 (.cond (.t 62) (.seq (.reg [Qo 64 (.fld (.t 3) 1),
 Qo 65 (.ldl (.t 64) none),
 Qo 66 (.call 54 [(.t 65),(.c (.d (.int .i64 2)))]),
 Qm 7 66] [1,2,3,7,8,9,10,11])
 (.seq (.seq (.reg [Qm 67 7,
 Qo 68 (.un .not (.t 67))] [1,2,3,7,8,9,10,11,68])
 (.cond (.t 68) (.seq (.reg [Qo 6 (.mv (.c (.d (.bool false))))] [6])
 .ret)
 .skip))
 (.reg [Qo 12 (.mv (.c (.d (.int .i64 6))))] [1,2,3,7,8,9,10,11,12])))
 (.seq (.seq (.reg [Qo 70 (.bin .eql (.t 30) (.c (.d (.int .i64 7)))),
 Qm 69 70] [1,2,3,7,8,9,10,11,12,30,69])
 (.cond (.t 69) .skip
 (.reg [Qo 71 (.bin .eql (.t 30) (.c (.d (.int .i64 17)))),
 Qm 69 71] [1,2,3,7,8,9,10,11,12,30,69])))
 (.cond (.t 69) (.seq (.reg [Qo 72 (.fld (.t 3) 1),
 Qo 73 (.ldl (.t 72) none),
 Qo 74 (.bin .eql (.t 73) (.c (.d (.str [])))),
 Qm 75 74,
 ⟨some 76,.fld (.t 3) 1,some (75,false)⟩,
 ⟨some 77,.ldl (.t 76) none,some (75,false)⟩,
 ⟨some 78,.call 54 [(.t 77),(.c (.d (.int .i64 1)))],some (75,false)⟩,
 Qo 79 (.pick (.t 75) (.c (.d (.bool true))) (.t 78)),
 Qm 7 79] [1,2,3,7,8,9,10])
 (.reg [Qo 11 (.mv (.c (.d (.int .i64 2)))),
 Qo 12 (.mv (.c (.d (.int .i64 2))))] [1,2,3,7,8,9,10,11,12]))
 (.seq (.reg [Qo 81 (.bin .eql (.t 30) (.c (.d (.int .i64 8)))),
 Qm 80 81] [1,2,3,7,8,9,10,11,12,30,80])
 (.cond (.t 80) (.seq (.reg [Qo 82 (.fld (.t 3) 3),
 Qo 83 (.ldl (.t 82) none),
 Qo 84 (.len (.t 83)),
 Qo 85 (.bin .geq (.t 84) (.c (.d (.int .i64 2)))),
 Qm 86 85,
 ⟨some 87,.fld (.t 3) 3,some (86,true)⟩,
 ⟨some 88,.ldl (.t 87) none,some (86,true)⟩,
 ⟨some 89,.call 55 [(.t 88),(.c (.d (.bool false)))],some (86,true)⟩,
 Qo 90 (.pick (.t 86) (.t 89) (.c (.d (.bool false)))),
 Qm 9 90] [1,2,3,7,8,9,10])
 (.seq (.seq (.reg [Qm 91 9,
 Qo 92 (.un .not (.t 91))] [1,2,3,7,8,9,10,92])
 (.cond (.t 92) (.seq (.reg [Qo 6 (.mv (.c (.d (.bool false))))] [6])
 .ret)
 .skip))
 (.reg [Qo 11 (.mv (.c (.d (.int .i64 2)))),
 Qo 12 (.mv (.c (.d (.int .i64 2))))] [1,2,3,7,8,9,10,11,12])))
 (.seq (.reg [Qo 94 (.bin .eql (.t 30) (.c (.d (.int .i64 9)))),
 Qm 93 94] [1,2,3,7,8,9,10,11,12,30,93])
 (.cond (.t 93) (.reg [Qo 11 (.mv (.c (.d (.int .i64 3)))),
 Qo 12 (.mv (.c (.d (.int .i64 3))))] [1,2,3,7,8,9,10,11,12])
 (.seq (.reg [Qo 96 (.bin .eql (.t 30) (.c (.d (.int .i64 10)))),
 Qm 95 96] [1,2,3,7,8,9,10,11,12,30,95])
 (.cond (.t 95) (.seq (.reg [Qo 97 (.fld (.t 3) 5),
 Qo 98 (.ldl (.t 97) none),
 Qo 99 (.len (.t 98)),
 Qo 100 (.bin .geq (.t 99) (.c (.d (.int .i64 1)))),
 Qm 10 100] [1,2,3,7,8,9,10])
 (.seq (.seq (.reg [Qm 101 10,
 Qo 102 (.un .not (.t 101))] [1,2,3,7,8,9,10,102])
 (.cond (.t 102) (.seq (.reg [Qo 6 (.mv (.c (.d (.bool false))))] [6])
 .ret)
 .skip))
 (.reg [Qo 11 (.mv (.c (.d (.int .i64 1)))),
 Qo 12 (.mv (.c (.d (.int .i64 1))))] [1,2,3,7,8,9,10,11,12])))
 (.seq (.reg [Qo 104 (.bin .eql (.t 30) (.c (.d (.int .i64 11)))),
 Qm 103 104] [1,2,3,7,8,9,10,11,12,30,103])
 (.cond (.t 103) (.seq (.reg [Qo 105 (.fld (.t 3) 3),
 Qo 106 (.ldl (.t 105) none),
 Qo 107 (.call 55 [(.t 106),(.c (.d (.bool true)))]),
 Qm 9 107] [1,2,3,7,8,9,10])
 (.reg [Qo 11 (.mv (.c (.d (.int .i64 1)))),
 Qo 12 (.mv (.c (.d (.int .i64 1))))] [1,2,3,7,8,9,10,11,12]))
 (.seq (.reg [Qo 109 (.bin .eql (.t 30) (.c (.d (.int .i64 12)))),
 Qm 108 109] [1,2,3,7,8,9,10,11,12,30,108])
 (.cond (.t 108) (.reg [Qo 11 (.mv (.c (.d (.int .i64 1)))),
 Qo 12 (.mv (.c (.d (.int .i64 7))))] [1,2,3,7,8,9,10,11,12])
 (.seq (.reg [Qo 111 (.bin .eql (.t 30) (.c (.d (.int .i64 13)))),
 Qm 110 111] [1,2,3,7,8,9,10,11,12,30,110])
 (.cond (.t 110) (.seq (.reg [Qo 112 (.fld (.t 3) 2),
 Qo 113 (.ldl (.t 112) none),
 Qo 114 (.bin .geq (.t 113) (.c (.d (.int .i64 1)))),
 Qm 115 114,
 ⟨some 116,.fld (.t 3) 2,some (115,true)⟩,
 ⟨some 117,.ldl (.t 116) none,some (115,true)⟩,
 ⟨some 118,.bin .leq (.t 117) (.c (.d (.int .i64 8))),some (115,true)⟩,
 Qo 119 (.pick (.t 115) (.t 118) (.c (.d (.bool false)))),
 Qm 8 119] [1,2,3,7,8,9,10])
 (.seq (.seq (.reg [Qm 120 8,
 Qo 121 (.un .not (.t 120))] [1,2,3,7,8,9,10,121])
 (.cond (.t 121) (.seq (.reg [Qo 6 (.mv (.c (.d (.bool false))))] [6])
 .ret)
 .skip))
 (.reg [Qo 11 (.mv (.c (.d (.int .i64 2)))),
 Qo 12 (.mv (.c (.d (.int .i64 2))))] [1,2,3,7,8,9,10,11,12])))
 (.seq (.reg [Qo 123 (.bin .eql (.t 30) (.c (.d (.int .i64 14)))),
 Qm 122 123] [1,2,3,7,8,9,10,11,12,30,122])
 (.cond (.t 122) (.seq (.reg [Qo 124 (.fld (.t 3) 2),
 Qo 125 (.ldl (.t 124) none),
 Qo 126 (.bin .geq (.t 125) (.c (.d (.int .i64 1)))),
 Qm 127 126,
 ⟨some 128,.fld (.t 3) 2,some (127,true)⟩,
 ⟨some 129,.ldl (.t 128) none,some (127,true)⟩,
 ⟨some 130,.bin .leq (.t 129) (.c (.d (.int .i64 7))),some (127,true)⟩,
 Qo 131 (.pick (.t 127) (.t 130) (.c (.d (.bool false)))),
 Qm 8 131] [1,2,3,7,8,9,10])
 (.seq (.seq (.reg [Qm 132 8,
 Qo 133 (.un .not (.t 132))] [1,2,3,7,8,9,10,133])
 (.cond (.t 133) (.seq (.reg [Qo 6 (.mv (.c (.d (.bool false))))] [6])
 .ret)
 .skip))
 (.reg [Qo 134 (.fld (.t 3) 2),
 Qo 135 (.ldl (.t 134) none),
 Qo 137 (.fld (.t 3) 2),
 Qo 138 (.ldl (.t 137) none),
 Qo 136 (.call 111 [(.t 135)]),
 Qo 139 (.call 111 [(.t 138)]),
 Qm 11 136,
 Qm 12 139] [1,2,3,7,8,9,10,11,12])))
 (.seq (.reg [Qo 141 (.bin .eql (.t 30) (.c (.d (.int .i64 15)))),
 Qm 140 141] [1,2,3,7,8,9,10,11,12,30,140])
 (.cond (.t 140) (.reg [Qo 142 (.fld (.t 3) 2),
 Qo 143 (.ldl (.t 142) none),
 Qo 144 (.bin .geq (.t 143) (.c (.d (.int .i64 (-1000))))),
 Qm 145 144,
 ⟨some 146,.fld (.t 3) 2,some (145,true)⟩,
 ⟨some 147,.ldl (.t 146) none,some (145,true)⟩,
 ⟨some 148,.bin .leq (.t 147) (.c (.d (.int .i64 1000))),some (145,true)⟩,
 Qo 149 (.pick (.t 145) (.t 148) (.c (.d (.bool false)))),
 Qm 8 149] [1,2,3,7,8,9,10,11,12])
 (.seq (.reg [Qo 151 (.bin .eql (.t 30) (.c (.d (.int .i64 16)))),
 Qm 150 151] [1,2,3,7,8,9,10,150])
 (.cond (.t 150) (.reg [Qo 11 (.mv (.c (.d (.int .i64 1)))),
 Qo 12 (.mv (.c (.d (.int .i64 1))))] [1,2,3,7,8,9,10,11,12])
 (.seq (.reg [Qo 6 (.mv (.c (.d (.bool false))))] [6])
 .ret)))))))))))))))))))))))))))))))))))
 (.seq (.seq (.reg [Qm 152 7,
 Qo 153 (.un .not (.t 152)),
 Qm 154 153,
 ⟨some 155,.fld (.t 3) 1,some (154,true)⟩,
 ⟨some 156,.ldl (.t 155) none,some (154,true)⟩,
 ⟨some 157,.bin .neq (.t 156) (.c (.d (.str []))),some (154,true)⟩,
 Qo 158 (.pick (.t 154) (.t 157) (.c (.d (.bool false)))),
 Qm 159 158,
 ⟨some 160,.mv (.t 8),some (159,false)⟩,
 ⟨some 161,.un .not (.t 160),some (159,false)⟩,
 ⟨some 162,.mv (.t 161),some (159,false)⟩,
 ⟨some 163,.fld (.t 3) 2,some (162,true)⟩,
 ⟨some 164,.ldl (.t 163) none,some (162,true)⟩,
 ⟨some 165,.bin .neq (.t 164) (.c (.d (.int .i64 0))),some (162,true)⟩,
 ⟨some 166,.pick (.t 162) (.t 165) (.c (.d (.bool false))),some (159,false)⟩,
 Qo 167 (.pick (.t 159) (.c (.d (.bool true))) (.t 166)),
 Qm 168 167,
 ⟨some 169,.mv (.t 9),some (168,false)⟩,
 ⟨some 170,.un .not (.t 169),some (168,false)⟩,
 ⟨some 171,.mv (.t 170),some (168,false)⟩,
 ⟨some 172,.fld (.t 3) 3,some (171,true)⟩,
 ⟨some 173,.ldl (.t 172) none,some (171,true)⟩,
 ⟨some 174,.len (.t 173),some (171,true)⟩,
 ⟨some 175,.bin .gtr (.t 174) (.c (.d (.int .i64 0))),some (171,true)⟩,
 ⟨some 176,.pick (.t 171) (.t 175) (.c (.d (.bool false))),some (168,false)⟩,
 Qo 177 (.pick (.t 168) (.c (.d (.bool true))) (.t 176)),
 Qm 178 177,
 ⟨some 179,.mv (.t 10),some (178,false)⟩,
 ⟨some 180,.un .not (.t 179),some (178,false)⟩,
 ⟨some 181,.mv (.t 180),some (178,false)⟩,
 ⟨some 182,.fld (.t 3) 5,some (181,true)⟩,
 ⟨some 183,.ldl (.t 182) none,some (181,true)⟩,
 ⟨some 184,.len (.t 183),some (181,true)⟩,
 ⟨some 185,.bin .gtr (.t 184) (.c (.d (.int .i64 0))),some (181,true)⟩,
 ⟨some 186,.pick (.t 181) (.t 185) (.c (.d (.bool false))),some (178,false)⟩,
 Qo 187 (.pick (.t 178) (.c (.d (.bool true))) (.t 186)),
 Qm 188 187,
 ⟨some 189,.fld (.t 3) 4,some (188,false)⟩,
 ⟨some 190,.ldl (.t 189) none,some (188,false)⟩,
 ⟨some 191,.len (.t 190),some (188,false)⟩,
 ⟨some 192,.mv (.t 11),some (188,false)⟩,
 ⟨some 193,.bin .lss (.t 191) (.t 192),some (188,false)⟩,
 Qo 194 (.pick (.t 188) (.c (.d (.bool true))) (.t 193)),
 Qm 195 194,
 ⟨some 196,.fld (.t 3) 4,some (195,false)⟩,
 ⟨some 197,.ldl (.t 196) none,some (195,false)⟩,
 ⟨some 198,.len (.t 197),some (195,false)⟩,
 ⟨some 199,.mv (.t 12),some (195,false)⟩,
 ⟨some 200,.bin .gtr (.t 198) (.t 199),some (195,false)⟩,
 Qo 201 (.pick (.t 195) (.c (.d (.bool true))) (.t 200))] [1,2,3,201])
 (.cond (.t 201) (.seq (.reg [Qo 6 (.mv (.c (.d (.bool false))))] [6])
 .ret)
 .skip))
 (.seq (.seq (.reg [Qo 13 (.mv (.c (.d (.int .i64 0))))] [1,2,3,13])
 (.block 1 (.loop OC)))
 (.seq (.seq (.reg [Qo 14 (.mv (.c (.d (.int .i64 0))))] [1,2,3,14])
 (.block 3 (.loop OD)))
 (.seq (.reg [Qo 6 (.mv (.c (.d (.bool true))))] [6])
 .ret))))))))))
def Zd:List (List Nat×PT):=[([1,2,3],.done),([1,2,3,23],.done),([6],.done),([1,2,3],.done),([1,2,3,7,8,9,10],.done),([1,2,3,7,8,9,10,11,12],.done),([1,2,3,7,8,9,10,11,12,30],.done),([1,2,3,7,8,9,10,11,12,30,31],.done),([1,2,3,7,8,9,10,11,12,30,33],.done),([1,2,3,7,8,9,10,11,12],.done),([1,2,3,7,8,9,10,11,12,30,43],.done),([1,2,3,7,8,9,10,11,12],.done),([1,2,3,7,8,9,10,11,12,30,53],.done),([1,2,3,7,8,9,10,11,12],.done),([1,2,3,7,8,9,10,11,12,59],.done),([6],.done),([1,2,3,7,8,9,10,11,12,30,60],.done),([1,2,3,7,8,9,10,11,12],.done),([1,2,3,7,8,9,10,11,12,30,62],.done),([1,2,3,7,8,9,10,11],.done),([1,2,3,7,8,9,10,11,68],.done),([6],.done),([1,2,3,7,8,9,10,11,12],.done),([1,2,3,7,8,9,10,11,12,30,69],.done),([1,2,3,7,8,9,10,11,12,30,69],.done),([1,2,3,7,8,9,10],.done),([1,2,3,7,8,9,10,11,12],.done),([1,2,3,7,8,9,10,11,12,30,80],.done),([1,2,3,7,8,9,10],.done),([1,2,3,7,8,9,10,92],.done),([6],.done),([1,2,3,7,8,9,10,11,12],.done),([1,2,3,7,8,9,10,11,12,30,93],.done),([1,2,3,7,8,9,10,11,12],.done),([1,2,3,7,8,9,10,11,12,30,95],.done),([1,2,3,7,8,9,10],.done),([1,2,3,7,8,9,10,102],.done),([6],.done),([1,2,3,7,8,9,10,11,12],.done),([1,2,3,7,8,9,10,11,12,30,103],.done),([1,2,3,7,8,9,10],.done),([1,2,3,7,8,9,10,11,12],.done),([1,2,3,7,8,9,10,11,12,30,108],.done),([1,2,3,7,8,9,10,11,12],.done),([1,2,3,7,8,9,10,11,12,30,110],.done),([1,2,3,7,8,9,10],.done),([1,2,3,7,8,9,10,121],.done),([6],.done),([1,2,3,7,8,9,10,11,12],.done),([1,2,3,7,8,9,10,11,12,30,122],.done),([1,2,3,7,8,9,10],.done),([1,2,3,7,8,9,10,133],.done),([6],.done),([1,2,3,7,8,9,10,11,12],(.one 0 (.one 1 (.one 3 (.one 4 (.one 2 (.one 5 (.one 6 (.one 7 .done))))))))),([1,2,3,7,8,9,10,11,12,30,140],.done),([1,2,3,7,8,9,10,11,12],.done),([1,2,3,7,8,9,10,150],.done),([1,2,3,7,8,9,10,11,12],.done),([6],.done),([1,2,3,201],.done),([6],.done),([1,2,3,13],.done),([1,2,3,13,206],.done),([1,2,3,13,218],.done),([6],.done),([1,2,3,13],.done),([1,2,3,14],.done),([1,2,3,14,223],.done),([1,2,3,14,15],.done),([1,2,3,14,249],.done),([6],.done),([1,2,3,14],.done),([6],.done)]
noncomputable def Fo:Cx:=⟨Tryz.prog,57,Tryz.f57,250,[300030,300036,300040,300046,300050,300056,300065,300073,300077,300083,300088,300098,300106,300113,300117,300125,300129,300135,300138,300143,300147,300156,300164,300173,300183,300190,300197,300204,300210,300221,300227,300232,300237,300243],[],[.t 6]⟩
theorem CY:Good Fo:=⟨Tryz.func57,by kernel_rfl⟩
theorem Lt:Fo.rs=[.t 6]:=rfl
theorem SC (hl:args.length≤250) (h:Run Fo K [.code YS] (At args) E σ):AP Tryz.prog 57 args σ K:=
 AX (cx:=Fo) (code:=Tryz.f57.body.getD .skip) CY (by kernel_rfl) Tryz.ntmps57 hl (AZ Fo _ Zd _ [] (by kernel_rfl)) h
def Mt:C:=(.seq (.reg [Qo 1 (.box (.t 0) false),
 Qo 2 (.mv (.c (.d (.bool false))))] [1])
 (.seq (.seq (.reg [Qo 3 (.fld (.t 1) 0),
 Qo 4 (.ldl (.t 3) none),
 Qo 5 (.call 101 [(.t 4)]),
 Qo 6 (.un .not (.t 5)),
 Qm 7 6,
 ⟨some 8,.fld (.t 1) 1,some (7,false)⟩,
 ⟨some 9,.ldl (.t 8) none,some (7,false)⟩,
 ⟨some 10,.len (.t 9),some (7,false)⟩,
 ⟨some 11,.bin .gtr (.t 10) (.c (.d (.int .i64 6))),some (7,false)⟩,
 Qo 12 (.pick (.t 7) (.c (.d (.bool true))) (.t 11)),
 Qm 13 12,
 ⟨some 14,.fld (.t 1) 1,some (13,false)⟩,
 ⟨some 15,.ldl (.t 14) none,some (13,false)⟩,
 ⟨some 16,.call 52 [(.t 15),(.c (.fn 51 [] []))],some (13,false)⟩,
 ⟨some 17,.un .not (.t 16),some (13,false)⟩,
 Qo 18 (.pick (.t 13) (.c (.d (.bool true))) (.t 17))] [1,18])
 (.cond (.t 18) (.seq (.reg [Qo 2 (.mv (.c (.d (.bool false))))] [2])
 .ret)
 .skip))
 (.seq (.seq (.reg [Qo 19 (.fld (.t 1) 2),
 Qo 20 (.ldl (.t 19) none),
 Qo 21 (.len (.t 20)),
 Qo 22 (.bin .lss (.t 21) (.c (.d (.int .i64 1)))),
 Qm 23 22,
 ⟨some 24,.fld (.t 1) 2,some (23,false)⟩,
 ⟨some 25,.ldl (.t 24) none,some (23,false)⟩,
 ⟨some 26,.len (.t 25),some (23,false)⟩,
 ⟨some 27,.bin .gtr (.t 26) (.c (.d (.int .i64 8))),some (23,false)⟩,
 Qo 28 (.pick (.t 23) (.c (.d (.bool true))) (.t 27))] [1,28])
 (.cond (.t 28) (.seq (.reg [Qo 2 (.mv (.c (.d (.bool false))))] [2])
 .ret)
 .skip))
 (.seq (.reg [Qo 29 (.fld (.t 1) 2),
 Qo 30 (.ldl (.t 29) none),
 Qo 31 (.call 102 [(.t 30),(.c (.fn 103 [] []))]),
 Qm 2 31] [2])
 .ret))))
noncomputable def Ew:Cx:=⟨Tryz.prog,50,Tryz.f50,32,[300004,300009,300015,300020,300025,300030],[],[.t 2]⟩
theorem NF:Good Ew:=⟨Tryz.func50,by kernel_rfl⟩
theorem MT:Ew.rs=[.t 2]:=rfl
theorem U6 (hl:args.length≤32) (h:Run Ew K [.code Mt] (At args) E σ):AP Tryz.prog 50 args σ K:=
 AX (cx:=Ew) (code:=Tryz.f50.body.getD .skip) NF (by kernel_rfl) Tryz.ntmps50 hl (AZ Ew _ (Ax Mt) _ [] (by kernel_rfl)) h
def Qn:C:=(.seq (.reg [Qo 2 (.mv (.c (.d (.bool false))))] [0])
 (.seq (.reg [Qm 3 0,
 Qo 4 (.call 107 [(.t 3),(.c (.d (.int .i64 1)))]),
 Qm 2 4] [2])
 .ret))
noncomputable def Gd:Cx:=⟨Tryz.prog,51,Tryz.f51,5,[],[],[.t 2]⟩
theorem Qr:Good Gd:=⟨Tryz.func51,by kernel_rfl⟩
theorem WZ:Gd.rs=[.t 2]:=rfl
theorem XM (hl:args.length≤5) (h:Run Gd K [.code Qn] (At args) E σ):AP Tryz.prog 51 args σ K:=
 AX (cx:=Gd) (code:=Tryz.f51.body.getD .skip) Qr (by kernel_rfl) Tryz.ntmps51 hl (AZ Gd _ (Ax Qn) _ [] (by kernel_rfl)) h
def MF:C:=(.seq (.reg [Qo 3 (.box (.t 1) true),
 Qo 4 (.mv (.c (.d (.bool false))))] [0,3])
 (.seq (.reg [Qm 5 0,
 Qo 6 (.mkf 109 [] [(.t 3)]),
 Qo 7 (.call 108 [(.t 5),(.t 6)]),
 Qo 8 (.un .not (.t 7)),
 Qm 4 8] [4])
 .ret))
noncomputable def Ea:Cx:=⟨Tryz.prog,52,Tryz.f52,9,[3],[],[.t 4]⟩
theorem ML:Good Ea:=⟨Tryz.func52,by kernel_rfl⟩
theorem Sb:Ea.rs=[.t 4]:=rfl
theorem TY (hl:args.length≤9) (h:Run Ea K [.code MF] (At args) E σ):AP Tryz.prog 52 args σ K:=
 AX (cx:=Ea) (code:=Tryz.f52.body.getD .skip) ML (by kernel_rfl) Tryz.ntmps52 hl (AZ Ea _ (Ax MF) _ [] (by kernel_rfl)) h
def OO:C:=(.seq (.reg [Qo 36 (.bin .lss (.t 35) (.t 34))] [0,2,4,33,34,35,36])
 (.seq (.cond (.t 36) .skip
 (.exit 0))
 (.seq (.block 1 (.seq (.reg [Qo 37 (.ix (.t 33) (.t 35) 6),
 Qo 38 (.ld (.t 37) (some 6)),
 Qo 8 (.al [(.d (.int .i64 0)),(.d (.str [])),(.d (.int .i64 0)),.AY,.AY,.AY] false),
 ⟨none,.st (.t 8) (.t 38) 6,none⟩] [0,2,4,8,33,34,35])
 (.seq (.reg [Qm 39 0,
 Qo 40 (.ldl (.t 8) (some 6)),
 Qm 41 2,
 Qo 42 (.bin .add (.t 41) (.c (.d (.int .i64 1)))),
 Qo 43 (.call 53 [(.t 39),(.t 40),(.t 42)]),
 Qo 44 (.un .not (.t 43))] [0,2,4,33,34,35,44])
 (.cond (.t 44) (.seq (.reg [Qo 6 (.mv (.c (.d (.bool false))))] [6])
 .ret)
 .skip))))
 (.reg [Qo 45 (.bin .add (.t 35) (.c (.d (.int .i64 1)))),
 Qm 35 45] [0,2,4,33,34,35]))))
def OP:C:=(.seq (.reg [Qo 50 (.bin .lss (.t 49) (.t 48))] [0,2,47,48,49,50])
 (.seq (.cond (.t 50) .skip
 (.exit 2))
 (.seq (.block 3 (.seq (.reg [Qo 51 (.ix (.t 47) (.t 49) 8),
 Qo 52 (.ld (.t 51) (some 8)),
 Qo 10 (.al [(.d (.str [])),.AY,(.d (.int .i64 0)),(.d (.str [])),(.d (.int .i64 0)),.AY,.AY,.AY] false),
 ⟨none,.st (.t 10) (.t 52) 8,none⟩] [0,2,10,47,48,49])
 (.seq (.reg [Qm 53 0,
 Qo 54 (.fld (.t 10) 2),
 Qo 55 (.ldl (.t 54) (some 6)),
 Qm 56 2,
 Qo 57 (.bin .add (.t 56) (.c (.d (.int .i64 1)))),
 Qo 58 (.call 53 [(.t 53),(.t 55),(.t 57)]),
 Qo 59 (.un .not (.t 58))] [0,2,47,48,49,59])
 (.cond (.t 59) (.seq (.reg [Qo 6 (.mv (.c (.d (.bool false))))] [6])
 .ret)
 .skip))))
 (.reg [Qo 60 (.bin .add (.t 49) (.c (.d (.int .i64 1)))),
 Qm 49 60] [0,2,47,48,49]))))
def Jk:C:=(.seq (.reg [Qo 4 (.box (.t 1) false),
 Qo 6 (.mv (.c (.d (.bool false))))] [0,2,4])
 (.seq (.reg [Qm 11 0,
 Qo 12 (.nck (.t 11)),
 Qo 13 (.fld (.t 12) 0),
 Qo 14 (.ld (.t 13) none),
 Qo 15 (.bin .add (.t 14) (.c (.d (.int .i64 1)))),
 Qo 16 (.nck (.t 11)),
 Qo 17 (.fld (.t 16) 0),
 ⟨none,.st (.t 17) (.t 15) 1,none⟩] [0,2,4])
 (.seq (.seq (.reg [Qm 18 0,
 Qo 19 (.nck (.t 18)),
 Qo 20 (.fld (.t 19) 0),
 Qo 21 (.ld (.t 20) none),
 Qo 22 (.bin .gtr (.t 21) (.c (.d (.int .i64 600)))),
 Qm 23 22,
 ⟨some 24,.mv (.t 2),some (23,false)⟩,
 ⟨some 25,.bin .gtr (.t 24) (.c (.d (.int .i64 40))),some (23,false)⟩,
 Qo 26 (.pick (.t 23) (.c (.d (.bool true))) (.t 25)),
 Qm 27 26,
 ⟨some 28,.ldl (.t 4) (some 6),some (27,false)⟩,
 ⟨some 29,.call 110 [(.t 28)],some (27,false)⟩,
 ⟨some 30,.un .not (.t 29),some (27,false)⟩,
 Qo 31 (.pick (.t 27) (.c (.d (.bool true))) (.t 30))] [0,2,4,31])
 (.cond (.t 31) (.seq (.reg [Qo 6 (.mv (.c (.d (.bool false))))] [6])
 .ret)
 .skip))
 (.seq (.seq (.reg [Qo 32 (.fld (.t 4) 4),
 Qo 33 (.ldl (.t 32) none),
 Qo 34 (.len (.t 33)),
 Qo 35 (.mv (.c (.d (.int .i64 0))))] [0,2,4,33,34,35])
 (.block 0 (.loop OO)))
 (.seq (.seq (.reg [Qo 46 (.fld (.t 4) 5),
 Qo 47 (.ldl (.t 46) none),
 Qo 48 (.len (.t 47)),
 Qo 49 (.mv (.c (.d (.int .i64 0))))] [0,2,47,48,49])
 (.block 2 (.loop OP)))
 (.seq (.reg [Qo 6 (.mv (.c (.d (.bool true))))] [6])
 .ret))))))
noncomputable def Dc:Cx:=⟨Tryz.prog,53,Tryz.f53,61,[300028,300033,300040,300047,300055],[],[.t 6]⟩
theorem CF:Good Dc:=⟨Tryz.func53,by kernel_rfl⟩
theorem QZ:Dc.rs=[.t 6]:=rfl
theorem KC (hl:args.length≤61) (h:Run Dc K [.code Jk] (At args) E σ):AP Tryz.prog 53 args σ K:=
 AX (cx:=Dc) (code:=Tryz.f53.body.getD .skip) CF (by kernel_rfl) Tryz.ntmps53 hl (AZ Dc _ (Ax Jk) _ [] (by kernel_rfl)) h
def Zq:C:=(.seq (.seq (.reg [Qm 40 6,
 Qm 41 0,
 Qo 42 (.J3 (.t 41)),
 Qo 43 (.bin .lss (.t 40) (.t 42)),
 Qm 44 43,
 ⟨some 45,.mv (.t 0),some (44,true)⟩,
 ⟨some 46,.mv (.t 6),some (44,true)⟩,
 ⟨some 47,.Ob (.t 45) (.t 46),some (44,true)⟩,
 ⟨some 48,.bin .neq (.t 47) (.c (.d (.int .u8 10))),some (44,true)⟩,
 Qo 49 (.pick (.t 44) (.t 48) (.c (.d (.bool false))))] [0,5,6,49])
 (.cond (.t 49) .skip
 (.exit 2)))
 (.block 3 (.reg [Qm 50 6,
 Qo 51 (.bin .add (.t 50) (.c (.d (.int .i64 1)))),
 Qm 6 51] [0,5,6])))
def Tl:C:=(.seq (.seq (.reg [Qm 77 6,
 Qm 78 8,
 Qo 79 (.bin .add (.t 77) (.t 78)),
 Qm 80 0,
 Qo 81 (.J3 (.t 80)),
 Qo 82 (.bin .lss (.t 79) (.t 81)),
 Qm 83 82,
 ⟨some 84,.mv (.t 0),some (83,true)⟩,
 ⟨some 85,.mv (.t 6),some (83,true)⟩,
 ⟨some 86,.mv (.t 8),some (83,true)⟩,
 ⟨some 87,.bin .add (.t 85) (.t 86),some (83,true)⟩,
 ⟨some 88,.Ob (.t 84) (.t 87),some (83,true)⟩,
 ⟨some 89,.call 69 [(.t 88)],some (83,true)⟩,
 ⟨some 90,.mv (.t 89),some (83,true)⟩,
 ⟨some 91,.mv (.t 0),some (90,false)⟩,
 ⟨some 92,.mv (.t 6),some (90,false)⟩,
 ⟨some 93,.mv (.t 8),some (90,false)⟩,
 ⟨some 94,.bin .add (.t 92) (.t 93),some (90,false)⟩,
 ⟨some 95,.Ob (.t 91) (.t 94),some (90,false)⟩,
 ⟨some 96,.call 70 [(.t 95)],some (90,false)⟩,
 ⟨some 97,.pick (.t 90) (.c (.d (.bool true))) (.t 96),some (83,true)⟩,
 ⟨some 98,.mv (.t 97),some (83,true)⟩,
 ⟨some 99,.mv (.t 0),some (98,false)⟩,
 ⟨some 100,.mv (.t 6),some (98,false)⟩,
 ⟨some 101,.mv (.t 8),some (98,false)⟩,
 ⟨some 102,.bin .add (.t 100) (.t 101),some (98,false)⟩,
 ⟨some 103,.Ob (.t 99) (.t 102),some (98,false)⟩,
 ⟨some 104,.call 71 [(.t 103)],some (98,false)⟩,
 ⟨some 105,.pick (.t 98) (.c (.d (.bool true))) (.t 104),some (83,true)⟩,
 ⟨some 106,.mv (.t 105),some (83,true)⟩,
 ⟨some 107,.mv (.t 0),some (106,false)⟩,
 ⟨some 108,.mv (.t 6),some (106,false)⟩,
 ⟨some 109,.mv (.t 8),some (106,false)⟩,
 ⟨some 110,.bin .add (.t 108) (.t 109),some (106,false)⟩,
 ⟨some 111,.Ob (.t 107) (.t 110),some (106,false)⟩,
 ⟨some 112,.bin .eql (.t 111) (.c (.d (.int .u8 95))),some (106,false)⟩,
 ⟨some 113,.pick (.t 106) (.c (.d (.bool true))) (.t 112),some (83,true)⟩,
 Qo 114 (.pick (.t 83) (.t 113) (.c (.d (.bool false))))] [0,5,6,7,8,114])
 (.cond (.t 114) .skip
 (.exit 5)))
 (.block 6 (.reg [Qm 115 8,
 Qo 116 (.bin .add (.t 115) (.c (.d (.int .i64 1)))),
 Qm 8 116] [0,5,6,7,8])))
def Tm:C:=(.seq (.seq (.reg [Qm 144 6,
 Qm 145 8,
 Qo 146 (.bin .add (.t 144) (.t 145)),
 Qm 147 0,
 Qo 148 (.J3 (.t 147)),
 Qo 149 (.bin .lss (.t 146) (.t 148)),
 Qm 150 149,
 ⟨some 151,.mv (.t 0),some (150,true)⟩,
 ⟨some 152,.mv (.t 6),some (150,true)⟩,
 ⟨some 153,.mv (.t 8),some (150,true)⟩,
 ⟨some 154,.bin .add (.t 152) (.t 153),some (150,true)⟩,
 ⟨some 155,.Ob (.t 151) (.t 154),some (150,true)⟩,
 ⟨some 156,.call 71 [(.t 155)],some (150,true)⟩,
 Qo 157 (.pick (.t 150) (.t 156) (.c (.d (.bool false))))] [0,5,6,7,8,157])
 (.cond (.t 157) .skip
 (.exit 7)))
 (.block 8 (.reg [Qm 158 8,
 Qo 159 (.bin .add (.t 158) (.c (.d (.int .i64 1)))),
 Qm 8 159] [0,5,6,7,8])))
def Zr:C:=(.seq (.seq (.reg [Qm 15 6,
 Qm 16 0,
 Qo 17 (.J3 (.t 16)),
 Qo 18 (.bin .lss (.t 15) (.t 17))] [0,5,6,18])
 (.cond (.t 18) .skip
 (.exit 0)))
 (.block 1 (.seq (.reg [Qm 19 0,
 Qm 20 6,
 Qo 21 (.Ob (.t 19) (.t 20)),
 Qm 7 21] [0,5,6,7])
 (.seq (.seq (.reg [Qm 22 7,
 Qo 23 (.bin .eql (.t 22) (.c (.d (.int .u8 9)))),
 Qm 24 23,
 ⟨some 25,.mv (.t 7),some (24,false)⟩,
 ⟨some 26,.bin .eql (.t 25) (.c (.d (.int .u8 10))),some (24,false)⟩,
 Qo 27 (.pick (.t 24) (.c (.d (.bool true))) (.t 26)),
 Qm 28 27,
 ⟨some 29,.mv (.t 7),some (28,false)⟩,
 ⟨some 30,.bin .eql (.t 29) (.c (.d (.int .u8 13))),some (28,false)⟩,
 Qo 31 (.pick (.t 28) (.c (.d (.bool true))) (.t 30)),
 Qm 32 31,
 ⟨some 33,.mv (.t 7),some (32,false)⟩,
 ⟨some 34,.bin .eql (.t 33) (.c (.d (.int .u8 32))),some (32,false)⟩,
 Qo 35 (.pick (.t 32) (.c (.d (.bool true))) (.t 34))] [0,5,6,7,35])
 (.cond (.t 35) (.seq (.reg [Qm 36 6,
 Qo 37 (.bin .add (.t 36) (.c (.d (.int .i64 1)))),
 Qm 6 37] [0,5,6])
 (.exit 1))
 .skip))
 (.seq (.seq (.reg [Qm 38 7,
 Qo 39 (.bin .eql (.t 38) (.c (.d (.int .u8 35))))] [0,5,6,7,39])
 (.cond (.t 39) (.seq (.block 2 (.loop Zq))
 (.exit 1))
 .skip))
 (.seq (.reg [Qo 8 (.mv (.c (.d (.int .i64 1))))] [0,5,6,7,8])
 (.seq (.block 4 (.seq (.reg [Qm 71 7,
 Qo 72 (.call 69 [(.t 71)]),
 Qm 73 72,
 ⟨some 74,.mv (.t 7),some (73,false)⟩,
 ⟨some 75,.call 70 [(.t 74)],some (73,false)⟩,
 Qo 76 (.pick (.t 73) (.c (.d (.bool true))) (.t 75)),
 Qm 70 76] [0,5,6,7,8,70])
 (.cond (.t 70) (.seq (.block 5 (.loop Tl))
 (.seq (.seq (.reg [Qm 117 8,
 Qo 118 (.bin .gtr (.t 117) (.c (.d (.int .i64 24))))] [0,5,6,7,8,118])
 (.cond (.t 118) (.seq (.reg [Qm 119 6,
 Qo 2 (.mv (.c .AY)),
 Qm 3 119,
 Qo 4 (.mv (.c (.d (.int .i64 9))))] [2,3,4])
 .ret)
 .skip))
 (.seq (.reg [Qo 9 (.mv (.c (.d (.int .i64 1))))] [0,5,6,7,8,9])
 (.seq (.seq (.reg [Qm 120 7,
 Qo 121 (.call 70 [(.t 120)])] [0,5,6,8,9,121])
 (.cond (.t 121) (.reg [Qo 9 (.mv (.c (.d (.int .i64 2))))] [0,5,6,8,9])
 (.seq (.reg [Qm 122 0,
 Qm 123 6,
 Qm 124 6,
 Qm 125 8,
 Qo 126 (.bin .add (.t 124) (.t 125)),
 Qo 127 (.ssl (.t 122) (some (.t 123)) (some (.t 126))),
 Qo 128 (.call 72 [(.t 127)])] [0,5,6,8,9,128])
 (.cond (.t 128) (.reg [Qo 9 (.mv (.c (.d (.int .i64 4))))] [0,5,6,8,9])
 .skip))))
 (.reg [Qm 129 5,
 Qm 130 9,
 Qm 131 0,
 Qm 132 6,
 Qm 133 6,
 Qm 134 8,
 Qo 135 (.bin .add (.t 133) (.t 134)),
 Qo 136 (.ssl (.t 131) (some (.t 132)) (some (.t 135))),
 Qm 137 6,
 Qo 138 (.bld [(.d (.int .i64 0)),(.d (.str [])),(.d (.int .i64 0))] [(0,1,(.t 130)),(1,1,(.t 136)),(2,1,(.t 137))]),
 Qo 139 (.bsl 3 1 [(.d (.int .i64 0)),(.d (.str [])),(.d (.int .i64 0))] [(0,3,(.t 138))]),
 Qo 140 (.app 58 3 32 (.t 129) (.t 139)),
 Qm 5 140] [0,5,6,8])))))
 (.seq (.reg [Qm 142 7,
 Qo 143 (.call 71 [(.t 142)]),
 Qm 141 143] [0,5,6,7,8,141])
 (.cond (.t 141) (.seq (.block 7 (.loop Tm))
 (.seq (.seq (.reg [Qm 160 8,
 Qo 161 (.bin .gtr (.t 160) (.c (.d (.int .i64 1)))),
 Qm 162 161,
 ⟨some 163,.mv (.t 7),some (162,true)⟩,
 ⟨some 164,.bin .eql (.t 163) (.c (.d (.int .u8 48))),some (162,true)⟩,
 Qo 165 (.pick (.t 162) (.t 164) (.c (.d (.bool false))))] [0,5,6,8,165])
 (.cond (.t 165) (.seq (.reg [Qm 166 6,
 Qo 2 (.mv (.c .AY)),
 Qm 3 166,
 Qo 4 (.mv (.c (.d (.int .i64 2))))] [2,3,4])
 .ret)
 .skip))
 (.seq (.seq (.reg [Qm 168 0,
 Qm 169 6,
 Qm 170 6,
 Qm 171 8,
 Qo 172 (.bin .add (.t 170) (.t 171)),
 Qo 173 (.ssl (.t 168) (some (.t 169)) (some (.t 172))),
 Qo 174 (.call 73 [(.t 173)]),
 Qm 167 174,
 Qo 175 (.ext (.t 167) 0),
 Qo 176 (.ext (.t 167) 1),
 Qm 10 175,
 Qm 11 176] [0,5,6,8,11])
 (.seq (.reg [Qm 177 11,
 Qo 178 (.un .not (.t 177))] [0,5,6,8,178])
 (.cond (.t 178) (.seq (.reg [Qm 179 6,
 Qo 2 (.mv (.c .AY)),
 Qm 3 179,
 Qo 4 (.mv (.c (.d (.int .i64 9))))] [2,3,4])
 .ret)
 .skip)))
 (.reg [Qm 180 5,
 Qm 181 0,
 Qm 182 6,
 Qm 183 6,
 Qm 184 8,
 Qo 185 (.bin .add (.t 183) (.t 184)),
 Qo 186 (.ssl (.t 181) (some (.t 182)) (some (.t 185))),
 Qm 187 6,
 Qo 188 (.bld [(.d (.int .i64 0)),(.d (.str [])),(.d (.int .i64 0))] [(0,1,(.c (.d (.int .i64 3)))),(1,1,(.t 186)),(2,1,(.t 187))]),
 Qo 189 (.bsl 3 1 [(.d (.int .i64 0)),(.d (.str [])),(.d (.int .i64 0))] [(0,3,(.t 188))]),
 Qo 190 (.app 58 3 32 (.t 180) (.t 189)),
 Qm 5 190] [0,5,6,8]))))
 (.seq (.reg [Qm 52 0,
 Qm 53 6,
 Qo 54 (.ssl (.t 52) (some (.t 53)) none),
 Qo 55 (.call 74 [(.t 54)]),
 Qm 8 55] [0,5,6,8])
 (.seq (.seq (.reg [Qm 56 8,
 Qo 57 (.bin .eql (.t 56) (.c (.d (.int .i64 0))))] [0,5,6,8,57])
 (.cond (.t 57) (.seq (.reg [Qm 58 6,
 Qo 2 (.mv (.c .AY)),
 Qm 3 58,
 Qo 4 (.mv (.c (.d (.int .i64 2))))] [2,3,4])
 .ret)
 .skip))
 (.reg [Qm 59 5,
 Qm 60 0,
 Qm 61 6,
 Qm 62 6,
 Qm 63 8,
 Qo 64 (.bin .add (.t 62) (.t 63)),
 Qo 65 (.ssl (.t 60) (some (.t 61)) (some (.t 64))),
 Qm 66 6,
 Qo 67 (.bld [(.d (.int .i64 0)),(.d (.str [])),(.d (.int .i64 0))] [(0,1,(.c (.d (.int .i64 5)))),(1,1,(.t 65)),(2,1,(.t 66))]),
 Qo 68 (.bsl 3 1 [(.d (.int .i64 0)),(.d (.str [])),(.d (.int .i64 0))] [(0,3,(.t 67))]),
 Qo 69 (.app 58 3 32 (.t 59) (.t 68)),
 Qm 5 69] [0,5,6,8]))))))))
 (.reg [Qm 191 6,
 Qm 192 8,
 Qo 193 (.bin .add (.t 191) (.t 192)),
 Qm 6 193] [0,5,6]))))))))
def YE:C:=(.seq (.reg [Qo 2 (.mv (.c .AY)),
 Qo 3 (.mv (.c (.d (.int .i64 0)))),
 Qo 4 (.mv (.c (.d (.int .i64 0))))] [0])
 (.seq (.seq (.reg [Qm 12 0,
 Qo 13 (.J3 (.t 12)),
 Qo 14 (.bin .gtr (.t 13) (.c (.d (.int .i64 16384))))] [0,14])
 (.cond (.t 14) (.seq (.reg [Qo 2 (.mv (.c .AY)),
 Qo 3 (.mv (.c (.d (.int .i64 0)))),
 Qo 4 (.mv (.c (.d (.int .i64 9))))] [2,3,4])
 .ret)
 .skip))
 (.seq (.reg [Qo 5 (.mv (.c .AY))] [0,5])
 (.seq (.seq (.reg [Qo 6 (.mv (.c (.d (.int .i64 0))))] [0,5,6])
 (.block 0 (.loop Zr)))
 (.seq (.reg [Qm 194 5,
 Qm 195 0,
 Qo 196 (.J3 (.t 195)),
 Qo 197 (.bld [(.d (.int .i64 0)),(.d (.str [])),(.d (.int .i64 0))] [(0,1,(.c (.d (.int .i64 6)))),(1,1,(.c (.d (.str [])))),(2,1,(.t 196))]),
 Qo 198 (.bsl 3 1 [(.d (.int .i64 0)),(.d (.str [])),(.d (.int .i64 0))] [(0,3,(.t 197))]),
 Qo 199 (.app 58 3 32 (.t 194) (.t 198)),
 Qm 2 199,
 Qo 3 (.mv (.c (.d (.int .i64 0)))),
 Qo 4 (.mv (.c (.d (.int .i64 0))))] [2,3,4])
 .ret)))))
noncomputable def GX:Cx:=⟨Tryz.prog,29,Tryz.f29,200,[],[],[.t 2,.t 3,.t 4]⟩
theorem HF:Good GX:=⟨Tryz.func29,by kernel_rfl⟩
theorem iI:GX.rs=[.t 2,.t 3,.t 4]:=rfl
theorem kI (hl:args.length≤200) (h:Run GX K [.code YE] (At args) E σ):AP Tryz.prog 29 args σ K:=
 AX (cx:=GX) (code:=Tryz.f29.body.getD .skip) HF (by kernel_rfl) Tryz.ntmps29 hl (AZ GX _ (Ax YE) _ [] (by kernel_rfl)) h
def Rl:C:=(.seq (.reg [Qo 2 (.mv (.c (.d (.int .i64 0))))] [0])
 (.seq (.reg [Qo 4 (.bsl 1 8 [(.d (.int .i64 0)),(.d (.int .i64 0)),(.d (.int .i64 0)),(.d (.int .i64 0)),(.d (.int .i64 0)),(.d (.int .i64 0)),(.d (.int .i64 0)),(.d (.int .i64 0))] [(0,1,(.c (.d (.int .i64 0)))),(1,1,(.c (.d (.int .i64 2)))),(2,1,(.c (.d (.int .i64 2)))),(3,1,(.c (.d (.int .i64 3)))),(4,1,(.c (.d (.int .i64 1)))),(5,1,(.c (.d (.int .i64 1)))),(6,1,(.c (.d (.int .i64 1)))),(7,1,(.c (.d (.int .i64 2))))]),
 Qm 3 4] [0,3])
 (.seq (.seq (.reg [Qm 5 0,
 Qo 6 (.bin .lss (.t 5) (.c (.d (.int .i64 1)))),
 Qm 7 6,
 ⟨some 8,.mv (.t 0),some (7,false)⟩,
 ⟨some 9,.mv (.t 3),some (7,false)⟩,
 ⟨some 10,.len (.t 9),some (7,false)⟩,
 ⟨some 11,.bin .geq (.t 8) (.t 10),some (7,false)⟩,
 Qo 12 (.pick (.t 7) (.c (.d (.bool true))) (.t 11))] [0,3,12])
 (.cond (.t 12) (.seq (.reg [Qo 2 (.mv (.c (.d (.int .i64 0))))] [2])
 .ret)
 .skip))
 (.seq (.reg [Qm 13 3,
 Qm 14 0,
 Qo 15 (.ix (.t 13) (.t 14) 1),
 Qo 16 (.ld (.t 15) none),
 Qm 2 16] [2])
 .ret))))
noncomputable def HU:Cx:=⟨Tryz.prog,111,Tryz.f111,17,[],[],[.t 2]⟩
theorem JM:Good HU:=⟨Tryz.func111,by kernel_rfl⟩
theorem XU:HU.rs=[.t 2]:=rfl
theorem Y8 (hl:args.length≤17) (h:Run HU K [.code Rl] (At args) E σ):AP Tryz.prog 111 args σ K:=
 AX (cx:=HU) (code:=Tryz.f111.body.getD .skip) JM (by kernel_rfl) Tryz.ntmps111 hl (AZ HU _ (Ax Rl) _ [] (by kernel_rfl)) h
def Ol:C:=(.seq (.reg [Qo 2 (.mv (.c (.d (.bool false))))] [0])
 (.seq (.reg [Qm 3 0,
 Qo 4 (.call 107 [(.t 3),(.c (.d (.int .i64 2)))]),
 Qm 2 4] [2])
 .ret))
noncomputable def Fu:Cx:=⟨Tryz.prog,101,Tryz.f101,5,[],[],[.t 2]⟩
theorem Ov:Good Fu:=⟨Tryz.func101,by kernel_rfl⟩
theorem Vd:Fu.rs=[.t 2]:=rfl
theorem WB (hl:args.length≤5) (h:Run Fu K [.code Ol] (At args) E σ):AP Tryz.prog 101 args σ K:=
 AX (cx:=Fu) (code:=Tryz.f101.body.getD .skip) Ov (by kernel_rfl) Tryz.ntmps101 hl (AZ Fu _ (Ax Ol) _ [] (by kernel_rfl)) h
def Hp:C:=(.seq (.reg [Qo 3 (.box (.t 1) true),
 Qo 4 (.mv (.c (.d (.bool false))))] [0,3])
 (.seq (.reg [Qm 5 0,
 Qo 6 (.mkf 150 [] [(.t 3)]),
 Qo 7 (.call 149 [(.t 5),(.t 6)]),
 Qo 8 (.un .not (.t 7)),
 Qm 4 8] [4])
 .ret))
noncomputable def Co:Cx:=⟨Tryz.prog,102,Tryz.f102,9,[3],[],[.t 4]⟩
theorem Hy:Good Co:=⟨Tryz.func102,by kernel_rfl⟩
theorem Ns:Co.rs=[.t 4]:=rfl
theorem OT (hl:args.length≤9) (h:Run Co K [.code Hp] (At args) E σ):AP Tryz.prog 102 args σ K:=
 AX (cx:=Co) (code:=Tryz.f102.body.getD .skip) Hy (by kernel_rfl) Tryz.ntmps102 hl (AZ Co _ (Ax Hp) _ [] (by kernel_rfl)) h
def Kz:C:=(.seq (.reg [Qo 1 (.box (.t 0) false),
 Qo 2 (.mv (.c (.d (.bool false))))] [1])
 (.seq (.reg [Qo 3 (.fld (.t 1) 0),
 Qo 4 (.ldl (.t 3) none),
 Qo 5 (.call 101 [(.t 4)]),
 Qm 6 5,
 ⟨some 7,.fld (.t 1) 1,some (6,true)⟩,
 ⟨some 8,.ldl (.t 7) none,some (6,true)⟩,
 ⟨some 9,.len (.t 8),some (6,true)⟩,
 ⟨some 10,.bin .leq (.t 9) (.c (.d (.int .i64 6))),some (6,true)⟩,
 Qo 11 (.pick (.t 6) (.t 10) (.c (.d (.bool false)))),
 Qm 12 11,
 ⟨some 13,.fld (.t 1) 1,some (12,true)⟩,
 ⟨some 14,.ldl (.t 13) none,some (12,true)⟩,
 ⟨some 15,.call 104 [(.t 14),(.c (.fn 105 [] []))],some (12,true)⟩,
 Qo 16 (.pick (.t 12) (.t 15) (.c (.d (.bool false)))),
 Qm 2 16] [2])
 .ret))
noncomputable def EU:Cx:=⟨Tryz.prog,103,Tryz.f103,17,[300004,300008,300014],[],[.t 2]⟩
theorem LL:Good EU:=⟨Tryz.func103,by kernel_rfl⟩
theorem KF:EU.rs=[.t 2]:=rfl
theorem SU (hl:args.length≤17) (h:Run EU K [.code Kz] (At args) E σ):AP Tryz.prog 103 args σ K:=
 AX (cx:=EU) (code:=Tryz.f103.body.getD .skip) LL (by kernel_rfl) Tryz.ntmps103 hl (AZ EU _ (Ax Kz) _ [] (by kernel_rfl)) h
def H8:C:=(.seq (.reg [Qo 3 (.box (.t 1) true),
 Qo 4 (.mv (.c (.d (.bool false))))] [0,3])
 (.seq (.reg [Qm 5 0,
 Qo 6 (.mkf 152 [] [(.t 3)]),
 Qo 7 (.call 151 [(.t 5),(.t 6)]),
 Qo 8 (.un .not (.t 7)),
 Qm 4 8] [4])
 .ret))
noncomputable def Cc:Cx:=⟨Tryz.prog,104,Tryz.f104,9,[3],[],[.t 4]⟩
theorem Hb:Good Cc:=⟨Tryz.func104,by kernel_rfl⟩
theorem NX:Cc.rs=[.t 4]:=rfl
theorem No (hl:args.length≤9) (h:Run Cc K [.code H8] (At args) E σ):AP Tryz.prog 104 args σ K:=
 AX (cx:=Cc) (code:=Tryz.f104.body.getD .skip) Hb (by kernel_rfl) Tryz.ntmps104 hl (AZ Cc _ (Ax H8) _ [] (by kernel_rfl)) h
def JK:C:=(.seq (.reg [Qo 1 (.box (.t 0) false),
 Qo 2 (.mv (.c (.d (.bool false))))] [1])
 (.seq (.reg [Qo 3 (.ldl (.t 1) (some 3)),
 Qo 4 (.call 106 [(.t 3),(.c (.d (.int .i64 1)))]),
 Qm 2 4] [2])
 .ret))
noncomputable def D3:Cx:=⟨Tryz.prog,105,Tryz.f105,5,[300003],[],[.t 2]⟩
theorem JT:Good D3:=⟨Tryz.func105,by kernel_rfl⟩
theorem P2:D3.rs=[.t 2]:=rfl
theorem QM (hl:args.length≤5) (h:Run D3 K [.code JK] (At args) E σ):AP Tryz.prog 105 args σ K:=
 AX (cx:=D3) (code:=Tryz.f105.body.getD .skip) JT (by kernel_rfl) Tryz.ntmps105 hl (AZ D3 _ (Ax JK) _ [] (by kernel_rfl)) h
def Mw:C:=(.seq (.reg [Qo 2 (.box (.t 0) false),
 Qo 3 (.box (.t 1) true),
 Qo 4 (.mv (.c (.d (.bool false))))] [2,3])
 (.seq (.seq (.reg [Qo 7 (.ld (.t 3) none),
 Qo 8 (.bin .gtr (.t 7) (.c (.d (.int .i64 40))))] [2,3,8])
 (.cond (.t 8) (.seq (.reg [Qo 4 (.mv (.c (.d (.bool false))))] [4])
 .ret)
 .skip))
 (.seq (.reg [Qo 5 (.mv (.c (.d (.int .i64 0)))),
 Qo 6 (.mv (.c (.d (.int .i64 0))))] [2,3,5,6])
 (.seq (.seq (.reg [Qo 9 (.fld (.t 2) 0),
 Qo 10 (.ldl (.t 9) none)] [2,3,5,6,10])
 (.block 0 (.seq (.seq (.reg [Qo 12 (.bin .eql (.t 10) (.c (.d (.int .i64 1)))),
 Qm 11 12] [2,3,5,6,10,11])
 (.cond (.t 11) .skip
 (.seq (.reg [Qo 13 (.bin .eql (.t 10) (.c (.d (.int .i64 2)))),
 Qm 11 13] [2,3,5,6,10,11])
 (.cond (.t 11) .skip
 (.reg [Qo 14 (.bin .eql (.t 10) (.c (.d (.int .i64 3)))),
 Qm 11 14] [2,3,5,6,10,11])))))
 (.cond (.t 11) .skip
 (.seq (.reg [Qo 16 (.bin .eql (.t 10) (.c (.d (.int .i64 4)))),
 Qm 15 16] [2,3,5,6,10,15])
 (.cond (.t 15) (.seq (.reg [Qo 17 (.fld (.t 2) 1),
 Qo 18 (.ldl (.t 17) none),
 Qo 19 (.call 51 [(.t 18)]),
 Qo 20 (.un .not (.t 19))] [2,3,5,6,20])
 (.cond (.t 20) (.seq (.reg [Qo 4 (.mv (.c (.d (.bool false))))] [4])
 .ret)
 .skip))
 (.seq (.reg [Qo 22 (.bin .eql (.t 10) (.c (.d (.int .i64 5)))),
 Qm 21 22] [2,3,5,10,21])
 (.cond (.t 21) (.seq (.seq (.reg [Qo 23 (.fld (.t 2) 1),
 Qo 24 (.ldl (.t 23) none),
 Qo 25 (.call 101 [(.t 24)]),
 Qo 26 (.un .not (.t 25))] [2,3,5,26])
 (.cond (.t 26) (.seq (.reg [Qo 4 (.mv (.c (.d (.bool false))))] [4])
 .ret)
 .skip))
 (.reg [Qo 6 (.mv (.c (.d (.int .i64 6))))] [2,3,5,6]))
 (.seq (.reg [Qo 28 (.bin .eql (.t 10) (.c (.d (.int .i64 6)))),
 Qm 27 28] [2,3,10,27])
 (.cond (.t 27) (.reg [Qo 5 (.mv (.c (.d (.int .i64 2)))),
 Qo 6 (.mv (.c (.d (.int .i64 6))))] [2,3,5,6])
 (.seq (.seq (.reg [Qo 30 (.bin .eql (.t 10) (.c (.d (.int .i64 7)))),
 Qm 29 30] [2,3,10,29])
 (.cond (.t 29) .skip
 (.reg [Qo 31 (.bin .eql (.t 10) (.c (.d (.int .i64 8)))),
 Qm 29 31] [2,3,10,29])))
 (.cond (.t 29) (.reg [Qo 5 (.mv (.c (.d (.int .i64 1)))),
 Qo 6 (.mv (.c (.d (.int .i64 1))))] [2,3,5,6])
 (.seq (.reg [Qo 33 (.bin .eql (.t 10) (.c (.d (.int .i64 9)))),
 Qm 32 33] [2,3,32])
 (.cond (.t 32) (.reg [Qo 5 (.mv (.c (.d (.int .i64 1)))),
 Qo 6 (.mv (.c (.d (.int .i64 7))))] [2,3,5,6])
 (.seq (.reg [Qo 4 (.mv (.c (.d (.bool false))))] [4])
 .ret)))))))))))))))
 (.seq (.seq (.reg [Qo 34 (.fld (.t 2) 0),
 Qo 35 (.ldl (.t 34) none),
 Qo 36 (.bin .neq (.t 35) (.c (.d (.int .i64 4)))),
 Qm 37 36,
 ⟨some 38,.fld (.t 2) 0,some (37,true)⟩,
 ⟨some 39,.ldl (.t 38) none,some (37,true)⟩,
 ⟨some 40,.bin .neq (.t 39) (.c (.d (.int .i64 5))),some (37,true)⟩,
 Qo 41 (.pick (.t 37) (.t 40) (.c (.d (.bool false)))),
 Qm 42 41,
 ⟨some 43,.fld (.t 2) 1,some (42,true)⟩,
 ⟨some 44,.ldl (.t 43) none,some (42,true)⟩,
 ⟨some 45,.bin .neq (.t 44) (.c (.d (.str []))),some (42,true)⟩,
 Qo 46 (.pick (.t 42) (.t 45) (.c (.d (.bool false))))] [2,3,5,6,46])
 (.cond (.t 46) (.seq (.reg [Qo 4 (.mv (.c (.d (.bool false))))] [4])
 .ret)
 .skip))
 (.seq (.reg [Qo 47 (.fld (.t 2) 2),
 Qo 48 (.ldl (.t 47) none),
 Qo 49 (.len (.t 48)),
 Qm 50 5,
 Qo 51 (.bin .geq (.t 49) (.t 50)),
 Qm 52 51,
 ⟨some 53,.fld (.t 2) 2,some (52,true)⟩,
 ⟨some 54,.ldl (.t 53) none,some (52,true)⟩,
 ⟨some 55,.len (.t 54),some (52,true)⟩,
 ⟨some 56,.mv (.t 6),some (52,true)⟩,
 ⟨some 57,.bin .leq (.t 55) (.t 56),some (52,true)⟩,
 Qo 58 (.pick (.t 52) (.t 57) (.c (.d (.bool false)))),
 Qm 59 58,
 ⟨some 60,.fld (.t 2) 2,some (59,true)⟩,
 ⟨some 61,.ldl (.t 60) none,some (59,true)⟩,
 ⟨some 62,.mkf 153 [] [(.t 3)],some (59,true)⟩,
 ⟨some 63,.call 104 [(.t 61),(.t 62)],some (59,true)⟩,
 Qo 64 (.pick (.t 59) (.t 63) (.c (.d (.bool false)))),
 Qm 4 64] [4])
 .ret))))))
noncomputable def FA:Cx:=⟨Tryz.prog,106,Tryz.f106,65,[3,300010,300018,300024,300035,300039,300044,300048,300054,300061],[],[.t 4]⟩
theorem IV:Good FA:=⟨Tryz.func106,by kernel_rfl⟩
theorem Tb:FA.rs=[.t 4]:=rfl
theorem NN (hl:args.length≤65) (h:Run FA K [.code Mw] (At args) E σ):AP Tryz.prog 106 args σ K:=
 AX (cx:=FA) (code:=Tryz.f106.body.getD .skip) IV (by kernel_rfl) Tryz.ntmps106 hl (AZ FA _ (Ax Mw) _ [] (by kernel_rfl)) h
def Ok:C:=(.seq (.reg [Qo 4 (.mv (.c (.d (.bool false))))] [0,1])
 (.seq (.reg [Qm 9 0,
 Qo 10 (.call 21 [(.t 9)]),
 Qm 8 10,
 Qo 11 (.ext (.t 8) 0),
 Qo 12 (.ext (.t 8) 1),
 Qo 13 (.ext (.t 8) 2),
 Qm 5 11,
 Qm 6 12,
 Qm 7 13] [0,1,5,7])
 (.seq (.reg [Qm 14 7,
 Qo 15 (.bin .eql (.t 14) (.c (.d (.int .i64 0)))),
 Qm 16 15,
 ⟨some 17,.mv (.t 5),some (16,true)⟩,
 ⟨some 18,.len (.t 17),some (16,true)⟩,
 ⟨some 19,.bin .eql (.t 18) (.c (.d (.int .i64 2))),some (16,true)⟩,
 Qo 20 (.pick (.t 16) (.t 19) (.c (.d (.bool false)))),
 Qm 21 20,
 ⟨some 22,.mv (.t 5),some (21,true)⟩,
 ⟨some 23,.ix (.t 22) (.c (.d (.int .i64 0))) 3,some (21,true)⟩,
 ⟨some 24,.fld (.t 23) 0,some (21,true)⟩,
 ⟨some 25,.ld (.t 24) none,some (21,true)⟩,
 ⟨some 26,.mv (.t 1),some (21,true)⟩,
 ⟨some 27,.bin .eql (.t 25) (.t 26),some (21,true)⟩,
 Qo 28 (.pick (.t 21) (.t 27) (.c (.d (.bool false)))),
 Qm 29 28,
 ⟨some 30,.mv (.t 5),some (29,true)⟩,
 ⟨some 31,.ix (.t 30) (.c (.d (.int .i64 0))) 3,some (29,true)⟩,
 ⟨some 32,.fld (.t 31) 1,some (29,true)⟩,
 ⟨some 33,.ld (.t 32) none,some (29,true)⟩,
 ⟨some 34,.mv (.t 0),some (29,true)⟩,
 ⟨some 35,.bin .eql (.t 33) (.t 34),some (29,true)⟩,
 Qo 36 (.pick (.t 29) (.t 35) (.c (.d (.bool false)))),
 Qm 4 36] [4])
 .ret)))
noncomputable def Ft:Cx:=⟨Tryz.prog,107,Tryz.f107,37,[],[],[.t 4]⟩
theorem Fc:Good Ft:=⟨Tryz.func107,by kernel_rfl⟩
theorem Vc:Ft.rs=[.t 4]:=rfl
theorem WA (hl:args.length≤37) (h:Run Ft K [.code Ok] (At args) E σ):AP Tryz.prog 107 args σ K:=
 AX (cx:=Ft) (code:=Tryz.f107.body.getD .skip) Fc (by kernel_rfl) Tryz.ntmps107 hl (AZ Ft _ (Ax Ok) _ [] (by kernel_rfl)) h
def G0:C:=(.seq (.reg [Qo 4 (.mv (.c (.d (.bool false))))] [0,1])
 (.seq (.reg [Qm 5 0,
 Qm 6 1,
 Qo 7 (.call 154 [(.t 5),(.t 6)]),
 Qo 8 (.bin .geq (.t 7) (.c (.d (.int .i64 0)))),
 Qm 4 8] [4])
 .ret))
noncomputable def Bx:Cx:=⟨Tryz.prog,108,Tryz.f108,9,[],[],[.t 4]⟩
theorem G5:Good Bx:=⟨Tryz.func108,by kernel_rfl⟩
theorem LV:Bx.rs=[.t 4]:=rfl
theorem Lj (hl:args.length≤9) (h:Run Bx K [.code G0] (At args) E σ):AP Tryz.prog 108 args σ K:=
 AX (cx:=Bx) (code:=Tryz.f108.body.getD .skip) G5 (by kernel_rfl) Tryz.ntmps108 hl (AZ Bx _ (Ax G0) _ [] (by kernel_rfl)) h
def Jj:C:=(.seq (.reg [Qo 3 (.mv (.c (.d (.bool false))))] [0,1])
 (.seq (.reg [Qo 4 (.ld (.t 1) none),
 Qm 5 0,
 Qo 6 (.EY (.t 4) [(.t 5)]),
 Qo 7 (.un .not (.t 6)),
 Qm 3 7] [3])
 .ret))
noncomputable def Db:Cx:=⟨Tryz.prog,109,Tryz.f109,8,[],[],[.t 3]⟩
theorem Jv:Good Db:=⟨Tryz.func109,by kernel_rfl⟩
theorem QY:Db.rs=[.t 3]:=rfl
theorem RE (hl:args.length≤8) (h:Run Db K [.code Jj] (At args) E σ):AP Tryz.prog 109 args σ K:=
 AX (cx:=Db) (code:=Tryz.f109.body.getD .skip) Jv (by kernel_rfl) Tryz.ntmps109 hl (AZ Db _ (Ax Jj) _ [] (by kernel_rfl)) h
def Mv:C:=(.seq (.reg [Qo 1 (.box (.t 0) false),
 Qo 2 (.mv (.c (.d (.bool false))))] [1])
 (.seq (.reg [Qo 7 (.fld (.t 1) 4),
 Qo 8 (.ldl (.t 7) none),
 Qo 9 (.len (.t 8)),
 Qm 3 9] [1,3])
 (.seq (.reg [Qo 10 (.ldl (.t 1) (some 6)),
 Qo 4 (.al [(.d (.int .i64 0)),(.d (.str [])),(.d (.int .i64 0)),.AY,.AY,.AY] false),
 ⟨none,.st (.t 4) (.t 10) 6,none⟩] [1,3,4])
 (.seq (.seq (.reg [Qo 11 (.fld (.t 1) 0),
 Qo 12 (.ldl (.t 11) none)] [1,3,4,12])
 (.block 0 (.seq (.seq (.reg [Qo 14 (.bin .eql (.t 12) (.c (.d (.int .i64 1)))),
 Qm 13 14] [1,3,4,12,13])
 (.cond (.t 13) .skip
 (.seq (.reg [Qo 15 (.bin .eql (.t 12) (.c (.d (.int .i64 2)))),
 Qm 13 15] [1,3,4,12,13])
 (.cond (.t 13) .skip
 (.seq (.reg [Qo 16 (.bin .eql (.t 12) (.c (.d (.int .i64 3)))),
 Qm 13 16] [1,3,4,12,13])
 (.cond (.t 13) .skip
 (.seq (.reg [Qo 17 (.bin .eql (.t 12) (.c (.d (.int .i64 15)))),
 Qm 13 17] [1,3,4,12,13])
 (.cond (.t 13) .skip
 (.reg [Qo 18 (.bin .eql (.t 12) (.c (.d (.int .i64 4)))),
 Qm 13 18] [1,3,4,12,13])))))))))
 (.cond (.t 13) (.seq (.reg [Qm 19 3,
 Qo 20 (.bin .eql (.t 19) (.c (.d (.int .i64 0)))),
 Qm 21 20,
 ⟨some 22,.ldl (.t 1) (some 6),some (21,true)⟩,
 ⟨some 23,.call 155 [(.t 22)],some (21,true)⟩,
 Qo 24 (.pick (.t 21) (.t 23) (.c (.d (.bool false)))),
 Qm 2 24] [2])
 .ret)
 (.seq (.reg [Qo 26 (.bin .eql (.t 12) (.c (.d (.int .i64 5)))),
 Qm 25 26] [1,3,4,12,25])
 (.cond (.t 25) (.seq (.reg [Qm 27 3,
 Qo 28 (.bin .geq (.t 27) (.c (.d (.int .i64 2)))),
 Qm 29 28,
 ⟨some 30,.mv (.t 3),some (29,true)⟩,
 ⟨some 31,.bin .leq (.t 30) (.c (.d (.int .i64 6))),some (29,true)⟩,
 Qo 32 (.pick (.t 29) (.t 31) (.c (.d (.bool false)))),
 Qm 33 32,
 ⟨some 34,.ldl (.t 1) (some 6),some (33,true)⟩,
 ⟨some 35,.call 156 [(.t 34)],some (33,true)⟩,
 Qo 36 (.pick (.t 33) (.t 35) (.c (.d (.bool false)))),
 Qm 2 36] [2])
 .ret)
 (.seq (.reg [Qo 38 (.bin .eql (.t 12) (.c (.d (.int .i64 6)))),
 Qm 37 38] [1,3,4,12,37])
 (.cond (.t 37) (.seq (.reg [Qo 39 (.fld (.t 4) 1),
 ⟨none,.st (.t 39) (.c (.d (.str []))) 1,none⟩] [1,3,4])
 (.seq (.reg [Qm 40 3,
 Qo 41 (.bin .leq (.t 40) (.c (.d (.int .i64 6)))),
 Qm 42 41,
 ⟨some 43,.fld (.t 1) 1,some (42,true)⟩,
 ⟨some 44,.ldl (.t 43) none,some (42,true)⟩,
 ⟨some 45,.call 101 [(.t 44)],some (42,true)⟩,
 Qo 46 (.pick (.t 42) (.t 45) (.c (.d (.bool false)))),
 Qm 47 46,
 ⟨some 48,.ldl (.t 4) (some 6),some (47,true)⟩,
 ⟨some 49,.call 156 [(.t 48)],some (47,true)⟩,
 Qo 50 (.pick (.t 47) (.t 49) (.c (.d (.bool false)))),
 Qm 2 50] [2])
 .ret))
 (.seq (.seq (.reg [Qo 52 (.bin .eql (.t 12) (.c (.d (.int .i64 7)))),
 Qm 51 52] [1,3,4,12,51])
 (.cond (.t 51) .skip
 (.reg [Qo 53 (.bin .eql (.t 12) (.c (.d (.int .i64 17)))),
 Qm 51 53] [1,3,4,12,51])))
 (.cond (.t 51) (.seq (.reg [Qo 54 (.fld (.t 4) 1),
 ⟨none,.st (.t 54) (.c (.d (.str []))) 1,none⟩] [1,3,4])
 (.seq (.reg [Qm 55 3,
 Qo 56 (.bin .eql (.t 55) (.c (.d (.int .i64 2)))),
 Qm 57 56,
 ⟨some 58,.fld (.t 1) 1,some (57,true)⟩,
 ⟨some 59,.ldl (.t 58) none,some (57,true)⟩,
 ⟨some 60,.call 157 [(.t 59)],some (57,true)⟩,
 Qo 61 (.pick (.t 57) (.t 60) (.c (.d (.bool false)))),
 Qm 62 61,
 ⟨some 63,.ldl (.t 4) (some 6),some (62,true)⟩,
 ⟨some 64,.call 156 [(.t 63)],some (62,true)⟩,
 Qo 65 (.pick (.t 62) (.t 64) (.c (.d (.bool false)))),
 Qm 2 65] [2])
 .ret))
 (.seq (.reg [Qo 67 (.bin .eql (.t 12) (.c (.d (.int .i64 8)))),
 Qm 66 67] [1,3,4,12,66])
 (.cond (.t 66) (.seq (.reg [Qo 68 (.fld (.t 4) 3),
 ⟨none,.st (.t 68) (.c .AY) 1,none⟩] [1,3,4])
 (.seq (.reg [Qm 69 3,
 Qo 70 (.bin .eql (.t 69) (.c (.d (.int .i64 2)))),
 Qm 71 70,
 ⟨some 72,.fld (.t 1) 3,some (71,true)⟩,
 ⟨some 73,.ldl (.t 72) none,some (71,true)⟩,
 ⟨some 74,.len (.t 73),some (71,true)⟩,
 ⟨some 75,.bin .geq (.t 74) (.c (.d (.int .i64 2))),some (71,true)⟩,
 Qo 76 (.pick (.t 71) (.t 75) (.c (.d (.bool false)))),
 Qm 77 76,
 ⟨some 78,.fld (.t 1) 3,some (77,true)⟩,
 ⟨some 79,.ldl (.t 78) none,some (77,true)⟩,
 ⟨some 80,.len (.t 79),some (77,true)⟩,
 ⟨some 81,.bin .leq (.t 80) (.c (.d (.int .i64 6))),some (77,true)⟩,
 Qo 82 (.pick (.t 77) (.t 81) (.c (.d (.bool false)))),
 Qm 83 82,
 ⟨some 84,.fld (.t 1) 3,some (83,true)⟩,
 ⟨some 85,.ldl (.t 84) none,some (83,true)⟩,
 ⟨some 86,.call 52 [(.t 85),(.c (.fn 157 [] []))],some (83,true)⟩,
 Qo 87 (.pick (.t 83) (.t 86) (.c (.d (.bool false)))),
 Qm 88 87,
 ⟨some 89,.ldl (.t 4) (some 6),some (88,true)⟩,
 ⟨some 90,.call 156 [(.t 89)],some (88,true)⟩,
 Qo 91 (.pick (.t 88) (.t 90) (.c (.d (.bool false)))),
 Qm 2 91] [2])
 .ret))
 (.seq (.reg [Qo 93 (.bin .eql (.t 12) (.c (.d (.int .i64 9)))),
 Qm 92 93] [1,3,4,12,92])
 (.cond (.t 92) (.seq (.reg [Qm 94 3,
 Qo 95 (.bin .eql (.t 94) (.c (.d (.int .i64 3)))),
 Qm 96 95,
 ⟨some 97,.ldl (.t 1) (some 6),some (96,true)⟩,
 ⟨some 98,.call 156 [(.t 97)],some (96,true)⟩,
 Qo 99 (.pick (.t 96) (.t 98) (.c (.d (.bool false)))),
 Qm 2 99] [2])
 .ret)
 (.seq (.reg [Qo 101 (.bin .eql (.t 12) (.c (.d (.int .i64 10)))),
 Qm 100 101] [1,3,4,12,100])
 (.cond (.t 100) (.seq (.reg [Qo 102 (.fld (.t 4) 5),
 ⟨none,.st (.t 102) (.c .AY) 1,none⟩] [1,3,4])
 (.seq (.reg [Qm 103 3,
 Qo 104 (.bin .eql (.t 103) (.c (.d (.int .i64 1)))),
 Qm 105 104,
 ⟨some 106,.fld (.t 1) 5,some (105,true)⟩,
 ⟨some 107,.ldl (.t 106) none,some (105,true)⟩,
 ⟨some 108,.len (.t 107),some (105,true)⟩,
 ⟨some 109,.bin .geq (.t 108) (.c (.d (.int .i64 1))),some (105,true)⟩,
 Qo 110 (.pick (.t 105) (.t 109) (.c (.d (.bool false)))),
 Qm 111 110,
 ⟨some 112,.fld (.t 1) 5,some (111,true)⟩,
 ⟨some 113,.ldl (.t 112) none,some (111,true)⟩,
 ⟨some 114,.call 158 [(.t 113),(.c (.fn 159 [] []))],some (111,true)⟩,
 Qo 115 (.pick (.t 111) (.t 114) (.c (.d (.bool false)))),
 Qm 116 115,
 ⟨some 117,.ldl (.t 4) (some 6),some (116,true)⟩,
 ⟨some 118,.call 156 [(.t 117)],some (116,true)⟩,
 Qo 119 (.pick (.t 116) (.t 118) (.c (.d (.bool false)))),
 Qm 2 119] [2])
 .ret))
 (.seq (.reg [Qo 121 (.bin .eql (.t 12) (.c (.d (.int .i64 11)))),
 Qm 120 121] [1,3,4,12,120])
 (.cond (.t 120) (.seq (.reg [Qo 122 (.fld (.t 4) 3),
 ⟨none,.st (.t 122) (.c .AY) 1,none⟩] [1,3,4])
 (.seq (.reg [Qm 123 3,
 Qo 124 (.bin .eql (.t 123) (.c (.d (.int .i64 1)))),
 Qm 125 124,
 ⟨some 126,.fld (.t 1) 3,some (125,true)⟩,
 ⟨some 127,.ldl (.t 126) none,some (125,true)⟩,
 ⟨some 128,.len (.t 127),some (125,true)⟩,
 ⟨some 129,.bin .leq (.t 128) (.c (.d (.int .i64 6))),some (125,true)⟩,
 Qo 130 (.pick (.t 125) (.t 129) (.c (.d (.bool false)))),
 Qm 131 130,
 ⟨some 132,.fld (.t 1) 3,some (131,true)⟩,
 ⟨some 133,.ldl (.t 132) none,some (131,true)⟩,
 ⟨some 134,.call 52 [(.t 133),(.c (.fn 51 [] []))],some (131,true)⟩,
 Qo 135 (.pick (.t 131) (.t 134) (.c (.d (.bool false)))),
 Qm 136 135,
 ⟨some 137,.ldl (.t 4) (some 6),some (136,true)⟩,
 ⟨some 138,.call 156 [(.t 137)],some (136,true)⟩,
 Qo 139 (.pick (.t 136) (.t 138) (.c (.d (.bool false)))),
 Qm 2 139] [2])
 .ret))
 (.seq (.reg [Qo 141 (.bin .eql (.t 12) (.c (.d (.int .i64 12)))),
 Qm 140 141] [1,3,4,12,140])
 (.cond (.t 140) (.seq (.reg [Qm 142 3,
 Qo 143 (.bin .geq (.t 142) (.c (.d (.int .i64 1)))),
 Qm 144 143,
 ⟨some 145,.mv (.t 3),some (144,true)⟩,
 ⟨some 146,.bin .leq (.t 145) (.c (.d (.int .i64 7))),some (144,true)⟩,
 Qo 147 (.pick (.t 144) (.t 146) (.c (.d (.bool false)))),
 Qm 148 147,
 ⟨some 149,.ldl (.t 1) (some 6),some (148,true)⟩,
 ⟨some 150,.call 156 [(.t 149)],some (148,true)⟩,
 Qo 151 (.pick (.t 148) (.t 150) (.c (.d (.bool false)))),
 Qm 2 151] [2])
 .ret)
 (.seq (.reg [Qo 153 (.bin .eql (.t 12) (.c (.d (.int .i64 13)))),
 Qm 152 153] [1,3,4,12,152])
 (.cond (.t 152) (.seq (.reg [Qo 154 (.fld (.t 4) 2),
 ⟨none,.st (.t 154) (.c (.d (.int .i64 0))) 1,none⟩] [1,3,4])
 (.seq (.reg [Qm 155 3,
 Qo 156 (.bin .eql (.t 155) (.c (.d (.int .i64 2)))),
 Qm 157 156,
 ⟨some 158,.fld (.t 1) 2,some (157,true)⟩,
 ⟨some 159,.ldl (.t 158) none,some (157,true)⟩,
 ⟨some 160,.call 160 [(.t 159),(.c (.d (.int .i64 1))),(.c (.d (.int .i64 8)))],some (157,true)⟩,
 Qo 161 (.pick (.t 157) (.t 160) (.c (.d (.bool false)))),
 Qm 162 161,
 ⟨some 163,.ldl (.t 4) (some 6),some (162,true)⟩,
 ⟨some 164,.call 156 [(.t 163)],some (162,true)⟩,
 Qo 165 (.pick (.t 162) (.t 164) (.c (.d (.bool false)))),
 Qm 2 165] [2])
 .ret))
 (.seq (.reg [Qo 167 (.bin .eql (.t 12) (.c (.d (.int .i64 14)))),
 Qm 166 167] [1,3,4,12,166])
 (.cond (.t 166) (.seq (.reg [Qo 168 (.fld (.t 4) 2),
 ⟨none,.st (.t 168) (.c (.d (.int .i64 0))) 1,none⟩] [1,3,4])
 (.seq (.reg [Qo 170 (.fld (.t 1) 2),
 Qo 171 (.ldl (.t 170) none),
 Qo 172 (.call 147 [(.t 171)]),
 Qm 169 172,
 Qo 173 (.ext (.t 169) 0),
 Qo 174 (.ext (.t 169) 1),
 Qm 5 173,
 Qm 6 174] [3,4,6])
 (.seq (.reg [Qm 175 6,
 Qo 176 (.bin .gtr (.t 175) (.c (.d (.int .i64 0)))),
 Qm 177 176,
 ⟨some 178,.mv (.t 3),some (177,true)⟩,
 ⟨some 179,.mv (.t 6),some (177,true)⟩,
 ⟨some 180,.bin .eql (.t 178) (.t 179),some (177,true)⟩,
 Qo 181 (.pick (.t 177) (.t 180) (.c (.d (.bool false)))),
 Qm 182 181,
 ⟨some 183,.ldl (.t 4) (some 6),some (182,true)⟩,
 ⟨some 184,.call 156 [(.t 183)],some (182,true)⟩,
 Qo 185 (.pick (.t 182) (.t 184) (.c (.d (.bool false)))),
 Qm 2 185] [2])
 .ret)))
 (.seq (.reg [Qo 187 (.bin .eql (.t 12) (.c (.d (.int .i64 16)))),
 Qm 186 187] [1,3,186])
 (.cond (.t 186) (.seq (.reg [Qm 188 3,
 Qo 189 (.bin .eql (.t 188) (.c (.d (.int .i64 1)))),
 Qm 190 189,
 ⟨some 191,.ldl (.t 1) (some 6),some (190,true)⟩,
 ⟨some 192,.call 156 [(.t 191)],some (190,true)⟩,
 Qo 193 (.pick (.t 190) (.t 192) (.c (.d (.bool false)))),
 Qm 2 193] [2])
 .ret)
 .skip))))))))))))))))))))))))))
 (.seq (.reg [Qo 2 (.mv (.c (.d (.bool false))))] [2])
 .ret)))))
noncomputable def Ez:Cx:=⟨Tryz.prog,110,Tryz.f110,194,[300008,300010,300012,300022,300034,300044,300048,300059,300063,300073,300079,300085,300089,300097,300107,300113,300117,300127,300133,300137,300149,300159,300163,300171,300183,300191],[],[.t 2]⟩
theorem IU:Good Ez:=⟨Tryz.func110,by kernel_rfl⟩
theorem Ta:Ez.rs=[.t 2]:=rfl
theorem U8 (hl:args.length≤194) (h:Run Ez K [.code Mv] (At args) E σ):AP Tryz.prog 110 args σ K:=
 AX (cx:=Ez) (code:=Tryz.f110.body.getD .skip) IU (by kernel_rfl) Tryz.ntmps110 hl (AZ Ez _ (Ax Mv) _ [] (by kernel_rfl)) h
def YH:C:=(.seq (.reg [Qo 2 (.mv (.c (.d (.bool false))))] [0])
 (.seq (.reg [Qm 3 0,
 Qo 4 (.bin .geq (.t 3) (.c (.d (.int .u8 97)))),
 Qm 5 4,
 ⟨some 6,.mv (.t 0),some (5,true)⟩,
 ⟨some 7,.bin .leq (.t 6) (.c (.d (.int .u8 122))),some (5,true)⟩,
 Qo 8 (.pick (.t 5) (.t 7) (.c (.d (.bool false)))),
 Qm 2 8] [2])
 .ret))
noncomputable def N8:Cx:=⟨Tryz.prog,69,Tryz.f69,9,[],[],[.t 2]⟩
theorem Y2:Good N8:=⟨Tryz.func69,by kernel_rfl⟩
theorem iL:N8.rs=[.t 2]:=rfl
theorem kL (hl:args.length≤9) (h:Run N8 K [.code YH] (At args) E σ):AP Tryz.prog 69 args σ K:=
 AX (cx:=N8) (code:=Tryz.f69.body.getD .skip) Y2 (by kernel_rfl) Tryz.ntmps69 hl (AZ N8 _ (Ax YH) _ [] (by kernel_rfl)) h
def YI:C:=(.seq (.reg [Qo 2 (.mv (.c (.d (.bool false))))] [0])
 (.seq (.reg [Qm 3 0,
 Qo 4 (.bin .geq (.t 3) (.c (.d (.int .u8 65)))),
 Qm 5 4,
 ⟨some 6,.mv (.t 0),some (5,true)⟩,
 ⟨some 7,.bin .leq (.t 6) (.c (.d (.int .u8 90))),some (5,true)⟩,
 Qo 8 (.pick (.t 5) (.t 7) (.c (.d (.bool false)))),
 Qm 2 8] [2])
 .ret))
noncomputable def N9:Cx:=⟨Tryz.prog,70,Tryz.f70,9,[],[],[.t 2]⟩
theorem Y3:Good N9:=⟨Tryz.func70,by kernel_rfl⟩
theorem iM:N9.rs=[.t 2]:=rfl
theorem kM (hl:args.length≤9) (h:Run N9 K [.code YI] (At args) E σ):AP Tryz.prog 70 args σ K:=
 AX (cx:=N9) (code:=Tryz.f70.body.getD .skip) Y3 (by kernel_rfl) Tryz.ntmps70 hl (AZ N9 _ (Ax YI) _ [] (by kernel_rfl)) h
def YG:C:=(.seq (.reg [Qo 2 (.mv (.c (.d (.bool false))))] [0])
 (.seq (.reg [Qm 3 0,
 Qo 4 (.bin .geq (.t 3) (.c (.d (.int .u8 48)))),
 Qm 5 4,
 ⟨some 6,.mv (.t 0),some (5,true)⟩,
 ⟨some 7,.bin .leq (.t 6) (.c (.d (.int .u8 57))),some (5,true)⟩,
 Qo 8 (.pick (.t 5) (.t 7) (.c (.d (.bool false)))),
 Qm 2 8] [2])
 .ret))
noncomputable def N7:Cx:=⟨Tryz.prog,71,Tryz.f71,9,[],[],[.t 2]⟩
theorem Y1:Good N7:=⟨Tryz.func71,by kernel_rfl⟩
theorem iK:N7.rs=[.t 2]:=rfl
theorem kK (hl:args.length≤9) (h:Run N7 K [.code YG] (At args) E σ):AP Tryz.prog 71 args σ K:=
 AX (cx:=N7) (code:=Tryz.f71.body.getD .skip) Y1 (by kernel_rfl) Tryz.ntmps71 hl (AZ N7 _ (Ax YG) _ [] (by kernel_rfl)) h
def XF:C:=(.seq (.seq (.reg [Qm 6 4,
 Qm 7 3,
 Qo 8 (.len (.t 7)),
 Qo 9 (.bin .lss (.t 6) (.t 8))] [0,3,4,9])
 (.cond (.t 9) .skip
 (.exit 0)))
 (.seq (.block 1 (.seq (.reg [Qm 12 3,
 Qm 13 4,
 Qo 14 (.ix (.t 12) (.t 13) 1),
 Qo 15 (.ld (.t 14) none),
 Qm 16 0,
 Qo 17 (.bin .eql (.t 15) (.t 16))] [0,3,4,17])
 (.cond (.t 17) (.seq (.reg [Qo 2 (.mv (.c (.d (.bool true))))] [2])
 .ret)
 .skip)))
 (.reg [Qm 10 4,
 Qo 11 (.bin .add (.t 10) (.c (.d (.int .i64 1)))),
 Qm 4 11] [0,3,4])))
def Uy:C:=(.seq (.reg [Qo 2 (.mv (.c (.d (.bool false))))] [0])
 (.seq (.reg [Qo 5 (.bsl 1 28 [(.d (.str [])),(.d (.str [])),(.d (.str [])),(.d (.str [])),(.d (.str [])),(.d (.str [])),(.d (.str [])),(.d (.str [])),(.d (.str [])),(.d (.str [])),(.d (.str [])),(.d (.str [])),(.d (.str [])),(.d (.str [])),(.d (.str [])),(.d (.str [])),(.d (.str [])),(.d (.str [])),(.d (.str [])),(.d (.str [])),(.d (.str [])),(.d (.str [])),(.d (.str [])),(.d (.str [])),(.d (.str [])),(.d (.str [])),(.d (.str [])),(.d (.str []))] [(0,1,(.c (.d (.str [97,114,114,97,121])))),(1,1,(.c (.d (.str [98,111,111,108])))),(2,1,(.c (.d (.str [99,97,116,99,104])))),(3,1,(.c (.d (.str [100,97,116,97])))),(4,1,(.c (.d (.str [101,108,115,101])))),(5,1,(.c (.d (.str [101,110,100])))),(6,1,(.c (.d (.str [102,97,108,115,101])))),(7,1,(.c (.d (.str [102,110])))),(8,1,(.c (.d (.str [102,117,110])))),(9,1,(.c (.d (.str [103,101,116])))),(10,1,(.c (.d (.str [105,102])))),(11,1,(.c (.d (.str [105,110])))),(12,1,(.c (.d (.str [105,110,116])))),(13,1,(.c (.d (.str [108,101,110])))),(14,1,(.c (.d (.str [108,101,116])))),(15,1,(.c (.d (.str [109,97,116,99,104])))),(16,1,(.c (.d (.str [110,101,119])))),(17,1,(.c (.d (.str [114,97,105,115,101])))),(18,1,(.c (.d (.str [114,101,97,100])))),(19,1,(.c (.d (.str [114,101,102])))),(20,1,(.c (.d (.str [115,101,116])))),(21,1,(.c (.d (.str [116,104,101,110])))),(22,1,(.c (.d (.str [116,105,99,107])))),(23,1,(.c (.d (.str [116,114,117,101])))),(24,1,(.c (.d (.str [116,114,121])))),(25,1,(.c (.d (.str [117,110,105,116])))),(26,1,(.c (.d (.str [119,105,116,104])))),(27,1,(.c (.d (.str [119,114,105,116,101]))))]),
 Qm 3 5] [0,3])
 (.seq (.seq (.reg [Qo 4 (.mv (.c (.d (.int .i64 0))))] [0,3,4])
 (.block 0 (.loop XF)))
 (.seq (.reg [Qo 2 (.mv (.c (.d (.bool false))))] [2])
 .ret))))
noncomputable def J7:Cx:=⟨Tryz.prog,72,Tryz.f72,18,[],[],[.t 2]⟩
theorem QA:Good J7:=⟨Tryz.func72,by kernel_rfl⟩
theorem aR:J7.rs=[.t 2]:=rfl
theorem dP (hl:args.length≤18) (h:Run J7 K [.code Uy] (At args) E σ):AP Tryz.prog 72 args σ K:=
 AX (cx:=J7) (code:=Tryz.f72.body.getD .skip) QA (by kernel_rfl) Tryz.ntmps72 hl (AZ J7 _ (Ax Uy) _ [] (by kernel_rfl)) h
def Zs:C:=(.seq (.seq (.reg [Qm 6 5,
 Qm 7 0,
 Qo 8 (.J3 (.t 7)),
 Qo 9 (.bin .lss (.t 6) (.t 8))] [0,4,5,9])
 (.cond (.t 9) .skip
 (.exit 0)))
 (.seq (.block 1 (.seq (.reg [Qm 12 4,
 Qo 13 (.bin .mul (.t 12) (.c (.d (.int .i64 10)))),
 Qm 14 0,
 Qm 15 5,
 Qo 16 (.Ob (.t 14) (.t 15)),
 Qo 17 (.bin .sub (.t 16) (.c (.d (.int .u8 48)))),
 Qo 18 (.conv .i64 (.t 17)),
 Qo 19 (.bin .add (.t 13) (.t 18)),
 Qm 4 19] [0,4,5])
 (.seq (.reg [Qm 20 4,
 Qo 21 (.bin .gtr (.t 20) (.c (.d (.int .i64 1000000))))] [0,4,5,21])
 (.cond (.t 21) (.seq (.reg [Qo 2 (.mv (.c (.d (.int .i64 0)))),
 Qo 3 (.mv (.c (.d (.bool false))))] [2,3])
 .ret)
 .skip))))
 (.reg [Qm 10 5,
 Qo 11 (.bin .add (.t 10) (.c (.d (.int .i64 1)))),
 Qm 5 11] [0,4,5])))
def YF:C:=(.seq (.reg [Qo 2 (.mv (.c (.d (.int .i64 0)))),
 Qo 3 (.mv (.c (.d (.bool false))))] [0])
 (.seq (.reg [Qo 4 (.mv (.c (.d (.int .i64 0))))] [0,4])
 (.seq (.seq (.reg [Qo 5 (.mv (.c (.d (.int .i64 0))))] [0,4,5])
 (.block 0 (.loop Zs)))
 (.seq (.reg [Qm 22 4,
 Qm 2 22,
 Qo 3 (.mv (.c (.d (.bool true))))] [2,3])
 .ret))))
noncomputable def N6:Cx:=⟨Tryz.prog,73,Tryz.f73,23,[],[],[.t 2,.t 3]⟩
theorem U2:Good N6:=⟨Tryz.func73,by kernel_rfl⟩
theorem iJ:N6.rs=[.t 2,.t 3]:=rfl
theorem kJ (hl:args.length≤23) (h:Run N6 K [.code YF] (At args) E σ):AP Tryz.prog 73 args σ K:=
 AX (cx:=N6) (code:=Tryz.f73.body.getD .skip) U2 (by kernel_rfl) Tryz.ntmps73 hl (AZ N6 _ (Ax YF) _ [] (by kernel_rfl)) h
def Uz:C:=(.seq (.seq (.reg [Qm 23 4,
 Qm 24 3,
 Qo 25 (.J3 (.t 24)),
 Qo 26 (.bin .lss (.t 23) (.t 25))] [0,3,4,26])
 (.cond (.t 26) .skip
 (.exit 0)))
 (.seq (.block 1 (.seq (.reg [Qm 29 0,
 Qo 30 (.Ob (.t 29) (.c (.d (.int .i64 0)))),
 Qm 31 3,
 Qm 32 4,
 Qo 33 (.Ob (.t 31) (.t 32)),
 Qo 34 (.bin .eql (.t 30) (.t 33))] [0,3,4,34])
 (.cond (.t 34) (.seq (.reg [Qo 2 (.mv (.c (.d (.int .i64 1))))] [2])
 .ret)
 .skip)))
 (.reg [Qm 27 4,
 Qo 28 (.bin .add (.t 27) (.c (.d (.int .i64 1)))),
 Qm 4 28] [0,3,4])))
def bL:C:=(.seq (.reg [Qo 2 (.mv (.c (.d (.int .i64 0))))] [0])
 (.seq (.seq (.reg [Qm 5 0,
 Qo 6 (.J3 (.t 5)),
 Qo 7 (.bin .geq (.t 6) (.c (.d (.int .i64 2)))),
 Qm 8 7,
 ⟨some 9,.mv (.t 0),some (8,true)⟩,
 ⟨some 10,.ssl (.t 9) none (some (.c (.d (.int .i64 2)))),some (8,true)⟩,
 ⟨some 11,.bin .eql (.t 10) (.c (.d (.str [45,62]))),some (8,true)⟩,
 ⟨some 12,.mv (.t 11),some (8,true)⟩,
 ⟨some 13,.mv (.t 0),some (12,false)⟩,
 ⟨some 14,.ssl (.t 13) none (some (.c (.d (.int .i64 2)))),some (12,false)⟩,
 ⟨some 15,.bin .eql (.t 14) (.c (.d (.str [60,61]))),some (12,false)⟩,
 ⟨some 16,.pick (.t 12) (.c (.d (.bool true))) (.t 15),some (8,true)⟩,
 ⟨some 17,.mv (.t 16),some (8,true)⟩,
 ⟨some 18,.mv (.t 0),some (17,false)⟩,
 ⟨some 19,.ssl (.t 18) none (some (.c (.d (.int .i64 2)))),some (17,false)⟩,
 ⟨some 20,.bin .eql (.t 19) (.c (.d (.str [61,61]))),some (17,false)⟩,
 ⟨some 21,.pick (.t 17) (.c (.d (.bool true))) (.t 20),some (8,true)⟩,
 Qo 22 (.pick (.t 8) (.t 21) (.c (.d (.bool false))))] [0,22])
 (.cond (.t 22) (.seq (.reg [Qo 2 (.mv (.c (.d (.int .i64 2))))] [2])
 .ret)
 .skip))
 (.seq (.reg [Qo 3 (.mv (.c (.d (.str [40,41,44,61,124,43,45,42,47,37,60,59,95]))))] [0,3])
 (.seq (.seq (.reg [Qo 4 (.mv (.c (.d (.int .i64 0))))] [0,3,4])
 (.block 0 (.loop Uz)))
 (.seq (.reg [Qo 2 (.mv (.c (.d (.int .i64 0))))] [2])
 .ret)))))
noncomputable def Mk:Cx:=⟨Tryz.prog,74,Tryz.f74,35,[],[],[.t 2]⟩
theorem Ot:Good Mk:=⟨Tryz.func74,by kernel_rfl⟩
theorem lW:Mk.rs=[.t 2]:=rfl
theorem bW (hl:args.length≤35) (h:Run Mk K [.code bL] (At args) E σ):AP Tryz.prog 74 args σ K:=
 AX (cx:=Mk) (code:=Tryz.f74.body.getD .skip) Ot (by kernel_rfl) Tryz.ntmps74 hl (AZ Mk _ (Ax bL) _ [] (by kernel_rfl)) h
def FG:C:=(.seq (.reg [Qo 4 (.mv (.c (.d (.bool false))))] [0,1])
 (.seq (.reg [Qm 5 0,
 Qm 6 1,
 Qo 7 (.call 178 [(.t 5),(.t 6)]),
 Qo 8 (.bin .geq (.t 7) (.c (.d (.int .i64 0)))),
 Qm 4 8] [4])
 .ret))
noncomputable def B9:Cx:=⟨Tryz.prog,149,Tryz.f149,9,[],[],[.t 4]⟩
theorem FH:Good B9:=⟨Tryz.func149,by kernel_rfl⟩
theorem I1:B9.rs=[.t 4]:=rfl
theorem Iu (hl:args.length≤9) (h:Run B9 K [.code FG] (At args) E σ):AP Tryz.prog 149 args σ K:=
 AX (cx:=B9) (code:=Tryz.f149.body.getD .skip) FH (by kernel_rfl) Tryz.ntmps149 hl (AZ B9 _ (Ax FG) _ [] (by kernel_rfl)) h
def Gz:C:=(.seq (.reg [Qo 2 (.box (.t 0) false),
 Qo 3 (.mv (.c (.d (.bool false))))] [1,2])
 (.seq (.reg [Qo 4 (.ld (.t 1) none),
 Qo 5 (.ldl (.t 2) (some 2)),
 Qo 6 (.EY (.t 4) [(.t 5)]),
 Qo 7 (.un .not (.t 6)),
 Qm 3 7] [3])
 .ret))
noncomputable def C2:Cx:=⟨Tryz.prog,150,Tryz.f150,8,[300005],[],[.t 3]⟩
theorem HI:Good C2:=⟨Tryz.func150,by kernel_rfl⟩
theorem Me:C2.rs=[.t 3]:=rfl
theorem NJ (hl:args.length≤8) (h:Run C2 K [.code Gz] (At args) E σ):AP Tryz.prog 150 args σ K:=
 AX (cx:=C2) (code:=Tryz.f150.body.getD .skip) HI (by kernel_rfl) Tryz.ntmps150 hl (AZ C2 _ (Ax Gz) _ [] (by kernel_rfl)) h
def Eo:C:=(.seq (.reg [Qo 4 (.mv (.c (.d (.bool false))))] [0,1])
 (.seq (.reg [Qm 5 0,
 Qm 6 1,
 Qo 7 (.call 179 [(.t 5),(.t 6)]),
 Qo 8 (.bin .geq (.t 7) (.c (.d (.int .i64 0)))),
 Qm 4 8] [4])
 .ret))
noncomputable def B5:Cx:=⟨Tryz.prog,151,Tryz.f151,9,[],[],[.t 4]⟩
theorem Ep:Good B5:=⟨Tryz.func151,by kernel_rfl⟩
theorem ID:B5.rs=[.t 4]:=rfl
theorem IW (hl:args.length≤9) (h:Run B5 K [.code Eo] (At args) E σ):AP Tryz.prog 151 args σ K:=
 AX (cx:=B5) (code:=Tryz.f151.body.getD .skip) Ep (by kernel_rfl) Tryz.ntmps151 hl (AZ B5 _ (Ax Eo) _ [] (by kernel_rfl)) h
def Gm:C:=(.seq (.reg [Qo 2 (.box (.t 0) false),
 Qo 3 (.mv (.c (.d (.bool false))))] [1,2])
 (.seq (.reg [Qo 4 (.ld (.t 1) none),
 Qo 5 (.ldl (.t 2) (some 3)),
 Qo 6 (.EY (.t 4) [(.t 5)]),
 Qo 7 (.un .not (.t 6)),
 Qm 3 7] [3])
 .ret))
noncomputable def CL:Cx:=⟨Tryz.prog,152,Tryz.f152,8,[300005],[],[.t 3]⟩
theorem Gr:Good CL:=⟨Tryz.func152,by kernel_rfl⟩
theorem Lu:CL.rs=[.t 3]:=rfl
theorem M5 (hl:args.length≤8) (h:Run CL K [.code Gm] (At args) E σ):AP Tryz.prog 152 args σ K:=
 AX (cx:=CL) (code:=Tryz.f152.body.getD .skip) Gr (by kernel_rfl) Tryz.ntmps152 hl (AZ CL _ (Ax Gm) _ [] (by kernel_rfl)) h
def LA:C:=(.seq (.reg [Qo 2 (.box (.t 0) false),
 Qo 3 (.mv (.c (.d (.bool false))))] [1,2])
 (.seq (.reg [Qo 4 (.ldl (.t 2) (some 3)),
 Qo 5 (.ld (.t 1) none),
 Qo 6 (.bin .add (.t 5) (.c (.d (.int .i64 1)))),
 Qo 7 (.call 106 [(.t 4),(.t 6)]),
 Qm 3 7] [3])
 .ret))
noncomputable def EV:Cx:=⟨Tryz.prog,153,Tryz.f153,8,[300004],[],[.t 3]⟩
theorem LM:Good EV:=⟨Tryz.func153,by kernel_rfl⟩
theorem R9:EV.rs=[.t 3]:=rfl
theorem SW (hl:args.length≤8) (h:Run EV K [.code LA] (At args) E σ):AP Tryz.prog 153 args σ K:=
 AX (cx:=EV) (code:=Tryz.f153.body.getD .skip) LM (by kernel_rfl) Tryz.ntmps153 hl (AZ EV _ (Ax LA) _ [] (by kernel_rfl)) h
def Vq:C:=(.seq (.seq (.reg [Qm 26 6,
 Qm 27 0,
 Qo 28 (.J3 (.t 27)),
 Qo 29 (.bin .lss (.t 26) (.t 28))] [0,5,6,29])
 (.cond (.t 29) .skip
 (.exit 2)))
 (.seq (.block 3 (.seq (.reg [Qm 32 0,
 Qm 33 6,
 Qo 34 (.Ob (.t 32) (.t 33)),
 Qo 35 (.bin .eql (.t 34) (.c (.d (.int .u8 10))))] [0,5,6,35])
 (.cond (.t 35) (.exit 1)
 .skip)))
 (.reg [Qm 30 6,
 Qo 31 (.bin .add (.t 30) (.c (.d (.int .i64 1)))),
 Qm 6 31] [0,5,6])))
def Vr:C:=(.seq (.seq (.reg [Qm 12 6,
 Qm 13 0,
 Qo 14 (.J3 (.t 13)),
 Qo 15 (.bin .lss (.t 12) (.t 14))] [0,5,6,15])
 (.cond (.t 15) .skip
 (.exit 0)))
 (.block 1 (.seq (.seq (.reg [Qm 16 0,
 Qm 17 6,
 Qo 18 (.Ob (.t 16) (.t 17)),
 Qo 19 (.call 58 [(.t 18)])] [0,5,6,19])
 (.cond (.t 19) (.seq (.reg [Qm 20 6,
 Qo 21 (.bin .add (.t 20) (.c (.d (.int .i64 1)))),
 Qm 6 21] [0,5,6])
 (.exit 1))
 .skip))
 (.seq (.seq (.reg [Qm 22 0,
 Qm 23 6,
 Qo 24 (.Ob (.t 22) (.t 23)),
 Qo 25 (.bin .eql (.t 24) (.c (.d (.int .u8 35))))] [0,5,6,25])
 (.cond (.t 25) (.seq (.block 2 (.loop Vq))
 (.exit 0))
 .skip))
 (.seq (.reg [Qm 37 0,
 Qm 38 6,
 Qo 39 (.call 59 [(.t 37),(.t 38)]),
 Qm 36 39,
 Qo 40 (.ext (.t 36) 0),
 Qo 41 (.ext (.t 36) 1),
 Qo 7 (.al [(.d (.int .i64 0)),(.d (.str [])),(.d (.int .i64 0))] false),
 ⟨none,.st (.t 7) (.t 40) 3,none⟩,
 Qm 8 41] [0,5,6,7,8])
 (.seq (.seq (.reg [Qm 42 8,
 Qo 43 (.bin .neq (.t 42) (.c (.d (.int .i64 0))))] [0,5,6,7,8,43])
 (.cond (.t 43) (.seq (.reg [Qm 44 6,
 Qm 45 8,
 Qo 2 (.mv (.c .AY)),
 Qm 3 44,
 Qm 4 45] [2,3,4])
 .ret)
 .skip))
 (.seq (.reg [Qm 46 5,
 Qo 47 (.ldl (.t 7) (some 3)),
 Qo 48 (.bsl 3 1 [(.d (.int .i64 0)),(.d (.str [])),(.d (.int .i64 0))] [(0,3,(.t 47))]),
 Qo 49 (.app 38 3 32 (.t 46) (.t 48)),
 Qm 5 49] [0,5,6,7])
 (.reg [Qm 50 6,
 Qo 51 (.fld (.t 7) 1),
 Qo 52 (.ldl (.t 51) none),
 Qo 53 (.J3 (.t 52)),
 Qo 54 (.bin .add (.t 50) (.t 53)),
 Qm 6 54] [0,5,6]))))))))
def Tp:C:=(.seq (.reg [Qo 2 (.mv (.c .AY)),
 Qo 3 (.mv (.c (.d (.int .i64 0)))),
 Qo 4 (.mv (.c (.d (.int .i64 0))))] [0])
 (.scope (.seq (.seq (.reg [Qm 9 0,
 Qo 10 (.J3 (.t 9)),
 Qo 11 (.bin .gtr (.t 10) (.c (.d (.int .i64 16384))))] [0,11])
 (.cond (.t 11) (.seq (.reg [Qo 2 (.mv (.c .AY)),
 Qo 3 (.mv (.c (.d (.int .i64 0)))),
 Qo 4 (.mv (.c (.d (.int .i64 9))))] [2,3,4])
 .ret)
 .skip))
 (.seq (.reg [Qo 5 (.mv (.c .AY))] [0,5])
 (.seq (.reg [Qo 6 (.mv (.c (.d (.int .i64 0))))] [0,5,6])
 (.seq .skip
 (.seq (.block 0 (.loop Vr))
 (.seq (.reg [Qm 55 5,
 Qm 56 0,
 Qo 57 (.J3 (.t 56)),
 Qo 58 (.bld [(.d (.int .i64 0)),(.d (.str [])),(.d (.int .i64 0))] [(0,1,(.c (.d (.int .i64 6)))),(2,1,(.t 57))]),
 Qo 59 (.bsl 3 1 [(.d (.int .i64 0)),(.d (.str [])),(.d (.int .i64 0))] [(0,3,(.t 58))]),
 Qo 60 (.app 38 3 32 (.t 55) (.t 59)),
 Qm 2 60,
 Qo 3 (.mv (.c (.d (.int .i64 0)))),
 Qo 4 (.mv (.c (.d (.int .i64 0))))] [2,3,4])
 .ret))))))))
noncomputable def II:Cx:=⟨Tryz.prog,21,Tryz.f21,61,[300047,300052],[],[.t 2,.t 3,.t 4]⟩
theorem CB:Good II:=⟨Tryz.func21,by kernel_rfl⟩
theorem ZN:II.rs=[.t 2,.t 3,.t 4]:=rfl
theorem aG (hl:args.length≤61) (h:Run II K [.code Tp] (At args) E σ):AP Tryz.prog 21 args σ K:=
 AX (cx:=II) (code:=Tryz.f21.body.getD .skip) CB (by kernel_rfl) Tryz.ntmps21 hl (AZ II _ (Ax Tp) _ [] (by kernel_rfl)) h
def Ld:C:=(.seq (.reg [Qo 9 (.bin .lss (.t 8) (.t 7))] [0,1,7,8,9])
 (.seq (.cond (.t 9) .skip
 (.exit 0))
 (.seq (.block 1 (.seq (.reg [Qm 10 8,
 Qm 5 10] [0,1,5,7,8])
 (.seq (.reg [Qm 11 1,
 Qm 12 0,
 Qm 13 5,
 Qo 14 (.ix (.t 12) (.t 13) 1),
 Qo 15 (.ld (.t 14) none),
 Qo 16 (.EY (.t 11) [(.t 15)])] [0,1,5,7,8,16])
 (.cond (.t 16) (.seq (.reg [Qm 17 5,
 Qm 4 17] [4])
 .ret)
 .skip))))
 (.reg [Qo 18 (.bin .add (.t 8) (.c (.d (.int .i64 1)))),
 Qm 8 18] [0,1,7,8]))))
def H7:C:=(.seq (.reg [Qo 4 (.mv (.c (.d (.int .i64 0))))] [0,1])
 (.seq (.seq (.reg [Qm 6 0,
 Qo 7 (.len (.t 6)),
 Qo 8 (.mv (.c (.d (.int .i64 0))))] [0,1,7,8])
 (.block 0 (.loop Ld)))
 (.seq (.reg [Qo 4 (.mv (.c (.d (.int .i64 (-1)))))] [4])
 .ret)))
noncomputable def Cb:Cx:=⟨Tryz.prog,154,Tryz.f154,19,[],[],[.t 4]⟩
theorem FM:Good Cb:=⟨Tryz.func154,by kernel_rfl⟩
theorem NW:Cb.rs=[.t 4]:=rfl
theorem Nn (hl:args.length≤19) (h:Run Cb K [.code H7] (At args) E σ):AP Tryz.prog 154 args σ K:=
 AX (cx:=Cb) (code:=Tryz.f154.body.getD .skip) FM (by kernel_rfl) Tryz.ntmps154 hl (AZ Cb _ (Ax H7) _ [] (by kernel_rfl)) h
def Mu:C:=(.seq (.reg [Qo 1 (.box (.t 0) false),
 Qo 2 (.mv (.c (.d (.bool false))))] [1])
 (.seq (.reg [Qo 6 (.ldl (.t 1) (some 6)),
 Qo 3 (.al [(.d (.int .i64 0)),(.d (.str [])),(.d (.int .i64 0)),.AY,.AY,.AY] false),
 ⟨none,.st (.t 3) (.t 6) 6,none⟩] [1,3])
 (.seq (.seq (.reg [Qo 7 (.fld (.t 1) 0),
 Qo 8 (.ldl (.t 7) none)] [1,3,8])
 (.block 0 (.seq (.reg [Qo 10 (.bin .eql (.t 8) (.c (.d (.int .i64 1)))),
 Qm 9 10] [1,3,8,9])
 (.cond (.t 9) (.seq (.reg [Qo 11 (.ldl (.t 1) (some 6)),
 Qo 12 (.call 156 [(.t 11)]),
 Qm 2 12] [2])
 .ret)
 (.seq (.reg [Qo 14 (.bin .eql (.t 8) (.c (.d (.int .i64 4)))),
 Qm 13 14] [1,3,13])
 (.cond (.t 13) (.seq (.reg [Qo 15 (.fld (.t 3) 1),
 ⟨none,.st (.t 15) (.c (.d (.str []))) 1,none⟩] [1,3])
 (.seq (.reg [Qo 16 (.fld (.t 1) 1),
 Qo 17 (.ldl (.t 16) none),
 Qo 18 (.call 51 [(.t 17)]),
 Qm 19 18,
 ⟨some 20,.ldl (.t 3) (some 6),some (19,true)⟩,
 ⟨some 21,.call 156 [(.t 20)],some (19,true)⟩,
 Qo 22 (.pick (.t 19) (.t 21) (.c (.d (.bool false)))),
 Qm 2 22] [2])
 .ret))
 .skip))))))
 (.seq (.reg [Qo 23 (.fld (.t 3) 2),
 ⟨none,.st (.t 23) (.c (.d (.int .i64 0))) 1,none⟩] [1,3])
 (.seq (.reg [Qo 4 (.mv (.c (.d (.int .i64 (-1000000))))),
 Qo 5 (.mv (.c (.d (.int .i64 1000000))))] [1,3,4,5])
 (.seq (.seq (.reg [Qo 24 (.fld (.t 1) 0),
 Qo 25 (.ldl (.t 24) none)] [1,3,4,5,25])
 (.block 1 (.seq (.reg [Qo 27 (.bin .eql (.t 25) (.c (.d (.int .i64 2)))),
 Qm 26 27] [1,3,4,5,25,26])
 (.cond (.t 26) (.reg [Qo 4 (.mv (.c (.d (.int .i64 0)))),
 Qo 5 (.mv (.c (.d (.int .i64 1))))] [1,3,4,5])
 (.seq (.reg [Qo 29 (.bin .eql (.t 25) (.c (.d (.int .i64 15)))),
 Qm 28 29] [1,3,4,5,28])
 (.cond (.t 28) (.reg [Qo 4 (.mv (.c (.d (.int .i64 (-1000))))),
 Qo 5 (.mv (.c (.d (.int .i64 1000))))] [1,3,4,5])
 .skip))))))
 (.seq (.reg [Qo 30 (.fld (.t 1) 2),
 Qo 31 (.ldl (.t 30) none),
 Qm 32 4,
 Qm 33 5,
 Qo 34 (.call 160 [(.t 31),(.t 32),(.t 33)]),
 Qm 35 34,
 ⟨some 36,.ldl (.t 3) (some 6),some (35,true)⟩,
 ⟨some 37,.call 156 [(.t 36)],some (35,true)⟩,
 Qo 38 (.pick (.t 35) (.t 37) (.c (.d (.bool false)))),
 Qm 2 38] [2])
 .ret)))))))
noncomputable def Ey:Cx:=⟨Tryz.prog,155,Tryz.f155,39,[300006,300008,300011,300017,300020,300025,300031,300036],[],[.t 2]⟩
theorem Dr:Good Ey:=⟨Tryz.func155,by kernel_rfl⟩
theorem T9:Ey.rs=[.t 2]:=rfl
theorem U7 (hl:args.length≤39) (h:Run Ey K [.code Mu] (At args) E σ):AP Tryz.prog 155 args σ K:=
 AX (cx:=Ey) (code:=Tryz.f155.body.getD .skip) Dr (by kernel_rfl) Tryz.ntmps155 hl (AZ Ey _ (Ax Mu) _ [] (by kernel_rfl)) h
def Rq:C:=(.seq (.reg [Qo 1 (.box (.t 0) false),
 Qo 2 (.mv (.c (.d (.bool false))))] [1])
 (.seq (.reg [Qo 3 (.fld (.t 1) 1),
 Qo 4 (.ldl (.t 3) none),
 Qo 5 (.bin .eql (.t 4) (.c (.d (.str [])))),
 Qm 6 5,
 ⟨some 7,.fld (.t 1) 2,some (6,true)⟩,
 ⟨some 8,.ldl (.t 7) none,some (6,true)⟩,
 ⟨some 9,.bin .eql (.t 8) (.c (.d (.int .i64 0))),some (6,true)⟩,
 Qo 10 (.pick (.t 6) (.t 9) (.c (.d (.bool false)))),
 Qm 11 10,
 ⟨some 12,.fld (.t 1) 3,some (11,true)⟩,
 ⟨some 13,.ldl (.t 12) none,some (11,true)⟩,
 ⟨some 14,.len (.t 13),some (11,true)⟩,
 ⟨some 15,.bin .eql (.t 14) (.c (.d (.int .i64 0))),some (11,true)⟩,
 Qo 16 (.pick (.t 11) (.t 15) (.c (.d (.bool false)))),
 Qm 17 16,
 ⟨some 18,.fld (.t 1) 5,some (17,true)⟩,
 ⟨some 19,.ldl (.t 18) none,some (17,true)⟩,
 ⟨some 20,.len (.t 19),some (17,true)⟩,
 ⟨some 21,.bin .eql (.t 20) (.c (.d (.int .i64 0))),some (17,true)⟩,
 Qo 22 (.pick (.t 17) (.t 21) (.c (.d (.bool false)))),
 Qm 2 22] [2])
 .ret))
noncomputable def HZ:Cx:=⟨Tryz.prog,156,Tryz.f156,23,[300004,300008,300013,300019],[],[.t 2]⟩
theorem SA:Good HZ:=⟨Tryz.func156,by kernel_rfl⟩
theorem X0:HZ.rs=[.t 2]:=rfl
theorem Yd (hl:args.length≤23) (h:Run HZ K [.code Rq] (At args) E σ):AP Tryz.prog 156 args σ K:=
 AX (cx:=HZ) (code:=Tryz.f156.body.getD .skip) SA (by kernel_rfl) Tryz.ntmps156 hl (AZ HZ _ (Ax Rq) _ [] (by kernel_rfl)) h
def Ql:C:=(.seq (.reg [Qo 2 (.mv (.c (.d (.bool false))))] [0])
 (.seq (.reg [Qm 3 0,
 Qo 4 (.bin .eql (.t 3) (.c (.d (.str [])))),
 Qm 5 4,
 ⟨some 6,.mv (.t 0),some (5,false)⟩,
 ⟨some 7,.call 51 [(.t 6)],some (5,false)⟩,
 Qo 8 (.pick (.t 5) (.c (.d (.bool true))) (.t 7)),
 Qm 2 8] [2])
 .ret))
noncomputable def Gc:Cx:=⟨Tryz.prog,157,Tryz.f157,9,[],[],[.t 2]⟩
theorem Li:Good Gc:=⟨Tryz.func157,by kernel_rfl⟩
theorem WY:Gc.rs=[.t 2]:=rfl
theorem XL (hl:args.length≤9) (h:Run Gc K [.code Ql] (At args) E σ):AP Tryz.prog 157 args σ K:=
 AX (cx:=Gc) (code:=Tryz.f157.body.getD .skip) Li (by kernel_rfl) Tryz.ntmps157 hl (AZ Gc _ (Ax Ql) _ [] (by kernel_rfl)) h
def Kj:C:=(.seq (.reg [Qo 3 (.box (.t 1) true),
 Qo 4 (.mv (.c (.d (.bool false))))] [0,3])
 (.seq (.reg [Qm 5 0,
 Qo 6 (.mkf 181 [] [(.t 3)]),
 Qo 7 (.call 180 [(.t 5),(.t 6)]),
 Qo 8 (.un .not (.t 7)),
 Qm 4 8] [4])
 .ret))
noncomputable def EF:Cx:=⟨Tryz.prog,158,Tryz.f158,9,[3],[],[.t 4]⟩
theorem LG:Good EF:=⟨Tryz.func158,by kernel_rfl⟩
theorem RW:EF.rs=[.t 4]:=rfl
theorem SF (hl:args.length≤9) (h:Run EF K [.code Kj] (At args) E σ):AP Tryz.prog 158 args σ K:=
 AX (cx:=EF) (code:=Tryz.f158.body.getD .skip) LG (by kernel_rfl) Tryz.ntmps158 hl (AZ EF _ (Ax Kj) _ [] (by kernel_rfl)) h
def OF:C:=(.seq (.reg [Qo 1 (.box (.t 0) false),
 Qo 2 (.mv (.c (.d (.bool false))))] [1])
 (.seq (.reg [Qo 3 (.fld (.t 1) 0),
 Qo 4 (.ldl (.t 3) none),
 Qo 5 (.call 101 [(.t 4)]),
 Qm 6 5,
 ⟨some 7,.fld (.t 1) 1,some (6,true)⟩,
 ⟨some 8,.ldl (.t 7) none,some (6,true)⟩,
 ⟨some 9,.len (.t 8),some (6,true)⟩,
 ⟨some 10,.bin .leq (.t 9) (.c (.d (.int .i64 6))),some (6,true)⟩,
 Qo 11 (.pick (.t 6) (.t 10) (.c (.d (.bool false)))),
 Qm 12 11,
 ⟨some 13,.fld (.t 1) 1,some (12,true)⟩,
 ⟨some 14,.ldl (.t 13) none,some (12,true)⟩,
 ⟨some 15,.call 52 [(.t 14),(.c (.fn 157 [] []))],some (12,true)⟩,
 Qo 16 (.pick (.t 12) (.t 15) (.c (.d (.bool false)))),
 Qm 2 16] [2])
 .ret))
noncomputable def FT:Cx:=⟨Tryz.prog,159,Tryz.f159,17,[300004,300008,300014],[],[.t 2]⟩
theorem Gv:Good FT:=⟨Tryz.func159,by kernel_rfl⟩
theorem Uh:FT.rs=[.t 2]:=rfl
theorem VQ (hl:args.length≤17) (h:Run FT K [.code OF] (At args) E σ):AP Tryz.prog 159 args σ K:=
 AX (cx:=FT) (code:=Tryz.f159.body.getD .skip) Gv (by kernel_rfl) Tryz.ntmps159 hl (AZ FT _ (Ax OF) _ [] (by kernel_rfl)) h
def Oj:C:=(.seq (.reg [Qo 6 (.mv (.c (.d (.bool false))))] [0,1,2])
 (.seq (.reg [Qm 7 1,
 Qm 8 0,
 Qo 9 (.bin .leq (.t 7) (.t 8)),
 Qm 10 9,
 ⟨some 11,.mv (.t 0),some (10,true)⟩,
 ⟨some 12,.mv (.t 2),some (10,true)⟩,
 ⟨some 13,.bin .leq (.t 11) (.t 12),some (10,true)⟩,
 Qo 14 (.pick (.t 10) (.t 13) (.c (.d (.bool false)))),
 Qm 6 14] [6])
 .ret))
noncomputable def Fq:Cx:=⟨Tryz.prog,160,Tryz.f160,15,[],[],[.t 6]⟩
theorem Ou:Good Fq:=⟨Tryz.func160,by kernel_rfl⟩
theorem Vb:Fq.rs=[.t 6]:=rfl
theorem Vz (hl:args.length≤15) (h:Run Fq K [.code Oj] (At args) E σ):AP Tryz.prog 160 args σ K:=
 AX (cx:=Fq) (code:=Tryz.f160.body.getD .skip) Ou (by kernel_rfl) Tryz.ntmps160 hl (AZ Fq _ (Ax Oj) _ [] (by kernel_rfl)) h
def Ms:C:=(.seq (.reg [Qo 2 (.mv (.c (.d (.str [])))),
 Qo 3 (.mv (.c (.d (.int .i64 0))))] [0])
 (.seq (.seq (.reg [Qm 4 0] [4])
 (.block 0 (.seq (.reg [Qo 6 (.bin .eql (.t 4) (.c (.d (.int .i64 1)))),
 Qm 5 6] [4,5])
 (.cond (.t 5) (.seq (.reg [Qo 2 (.mv (.c (.d (.str [110,101,119])))),
 Qo 3 (.mv (.c (.d (.int .i64 2))))] [2,3])
 .ret)
 (.seq (.reg [Qo 8 (.bin .eql (.t 4) (.c (.d (.int .i64 2)))),
 Qm 7 8] [4,7])
 (.cond (.t 7) (.seq (.reg [Qo 2 (.mv (.c (.d (.str [103,101,116])))),
 Qo 3 (.mv (.c (.d (.int .i64 2))))] [2,3])
 .ret)
 (.seq (.reg [Qo 10 (.bin .eql (.t 4) (.c (.d (.int .i64 3)))),
 Qm 9 10] [4,9])
 (.cond (.t 9) (.seq (.reg [Qo 2 (.mv (.c (.d (.str [115,101,116])))),
 Qo 3 (.mv (.c (.d (.int .i64 3))))] [2,3])
 .ret)
 (.seq (.reg [Qo 12 (.bin .eql (.t 4) (.c (.d (.int .i64 4)))),
 Qm 11 12] [4,11])
 (.cond (.t 11) (.seq (.reg [Qo 2 (.mv (.c (.d (.str [108,101,110])))),
 Qo 3 (.mv (.c (.d (.int .i64 1))))] [2,3])
 .ret)
 (.seq (.reg [Qo 14 (.bin .eql (.t 4) (.c (.d (.int .i64 5)))),
 Qm 13 14] [4,13])
 (.cond (.t 13) (.seq (.reg [Qo 2 (.mv (.c (.d (.str [114,101,102])))),
 Qo 3 (.mv (.c (.d (.int .i64 1))))] [2,3])
 .ret)
 (.seq (.reg [Qo 16 (.bin .eql (.t 4) (.c (.d (.int .i64 6)))),
 Qm 15 16] [4,15])
 (.cond (.t 15) (.seq (.reg [Qo 2 (.mv (.c (.d (.str [114,101,97,100])))),
 Qo 3 (.mv (.c (.d (.int .i64 1))))] [2,3])
 .ret)
 (.seq (.reg [Qo 18 (.bin .eql (.t 4) (.c (.d (.int .i64 7)))),
 Qm 17 18] [17])
 (.cond (.t 17) (.seq (.reg [Qo 2 (.mv (.c (.d (.str [119,114,105,116,101])))),
 Qo 3 (.mv (.c (.d (.int .i64 2))))] [2,3])
 .ret)
 .skip))))))))))))))))
 (.seq (.reg [Qo 2 (.mv (.c (.d (.str [])))),
 Qo 3 (.mv (.c (.d (.int .i64 0))))] [2,3])
 .ret)))
noncomputable def Ev:Cx:=⟨Tryz.prog,147,Tryz.f147,19,[],[],[.t 2,.t 3]⟩
theorem ND:Good Ev:=⟨Tryz.func147,by kernel_rfl⟩
theorem T8:Ev.rs=[.t 2,.t 3]:=rfl
theorem U5 (hl:args.length≤19) (h:Run Ev K [.code Ms] (At args) E σ):AP Tryz.prog 147 args σ K:=
 AX (cx:=Ev) (code:=Tryz.f147.body.getD .skip) ND (by kernel_rfl) Tryz.ntmps147 hl (AZ Ev _ (Ax Ms) _ [] (by kernel_rfl)) h
def Ir:C:=(.seq (.reg [Qo 9 (.bin .lss (.t 8) (.t 7))] [0,1,7,8,9])
 (.seq (.cond (.t 9) .skip
 (.exit 0))
 (.seq (.block 1 (.seq (.reg [Qm 10 8,
 Qm 5 10] [0,1,5,7,8])
 (.seq (.reg [Qm 11 1,
 Qm 12 0,
 Qm 13 5,
 Qo 14 (.ix (.t 12) (.t 13) 2),
 Qo 15 (.ld (.t 14) (some 2)),
 Qo 16 (.EY (.t 11) [(.t 15)])] [0,1,5,7,8,16])
 (.cond (.t 16) (.seq (.reg [Qm 17 5,
 Qm 4 17] [4])
 .ret)
 .skip))))
 (.reg [Qo 18 (.bin .add (.t 8) (.c (.d (.int .i64 1)))),
 Qm 8 18] [0,1,7,8]))))
def F6:C:=(.seq (.reg [Qo 4 (.mv (.c (.d (.int .i64 0))))] [0,1])
 (.seq (.seq (.reg [Qm 6 0,
 Qo 7 (.len (.t 6)),
 Qo 8 (.mv (.c (.d (.int .i64 0))))] [0,1,7,8])
 (.block 0 (.loop Ir)))
 (.seq (.reg [Qo 4 (.mv (.c (.d (.int .i64 (-1)))))] [4])
 .ret)))
noncomputable def Bj:Cx:=⟨Tryz.prog,178,Tryz.f178,19,[],[],[.t 4]⟩
theorem Dp:Good Bj:=⟨Tryz.func178,by kernel_rfl⟩
theorem Jf:Bj.rs=[.t 4]:=rfl
theorem KN (hl:args.length≤19) (h:Run Bj K [.code F6] (At args) E σ):AP Tryz.prog 178 args σ K:=
 AX (cx:=Bj) (code:=Tryz.f178.body.getD .skip) Dp (by kernel_rfl) Tryz.ntmps178 hl (AZ Bj _ (Ax F6) _ [] (by kernel_rfl)) h
def IS:C:=(.seq (.reg [Qo 9 (.bin .lss (.t 8) (.t 7))] [0,1,7,8,9])
 (.seq (.cond (.t 9) .skip
 (.exit 0))
 (.seq (.block 1 (.seq (.reg [Qm 10 8,
 Qm 5 10] [0,1,5,7,8])
 (.seq (.reg [Qm 11 1,
 Qm 12 0,
 Qm 13 5,
 Qo 14 (.ix (.t 12) (.t 13) 3),
 Qo 15 (.ld (.t 14) (some 3)),
 Qo 16 (.EY (.t 11) [(.t 15)])] [0,1,5,7,8,16])
 (.cond (.t 16) (.seq (.reg [Qm 17 5,
 Qm 4 17] [4])
 .ret)
 .skip))))
 (.reg [Qo 18 (.bin .add (.t 8) (.c (.d (.int .i64 1)))),
 Qm 8 18] [0,1,7,8]))))
def F2:C:=(.seq (.reg [Qo 4 (.mv (.c (.d (.int .i64 0))))] [0,1])
 (.seq (.seq (.reg [Qm 6 0,
 Qo 7 (.len (.t 6)),
 Qo 8 (.mv (.c (.d (.int .i64 0))))] [0,1,7,8])
 (.block 0 (.loop IS)))
 (.seq (.reg [Qo 4 (.mv (.c (.d (.int .i64 (-1)))))] [4])
 .ret)))
noncomputable def Bg:Cx:=⟨Tryz.prog,179,Tryz.f179,19,[],[],[.t 4]⟩
theorem D8:Good Bg:=⟨Tryz.func179,by kernel_rfl⟩
theorem J0:Bg.rs=[.t 4]:=rfl
theorem Jc (hl:args.length≤19) (h:Run Bg K [.code F2] (At args) E σ):AP Tryz.prog 179 args σ K:=
 AX (cx:=Bg) (code:=Tryz.f179.body.getD .skip) D8 (by kernel_rfl) Tryz.ntmps179 hl (AZ Bg _ (Ax F2) _ [] (by kernel_rfl)) h
def Tq:C:=(.seq (.reg [Qo 2 (.mv (.c (.d (.bool false))))] [0])
 (.seq (.reg [Qm 3 0,
 Qo 4 (.bin .eql (.t 3) (.c (.d (.int .u8 9)))),
 Qm 5 4,
 ⟨some 6,.mv (.t 0),some (5,false)⟩,
 ⟨some 7,.bin .eql (.t 6) (.c (.d (.int .u8 10))),some (5,false)⟩,
 Qo 8 (.pick (.t 5) (.c (.d (.bool true))) (.t 7)),
 Qm 9 8,
 ⟨some 10,.mv (.t 0),some (9,false)⟩,
 ⟨some 11,.bin .eql (.t 10) (.c (.d (.int .u8 13))),some (9,false)⟩,
 Qo 12 (.pick (.t 9) (.c (.d (.bool true))) (.t 11)),
 Qm 13 12,
 ⟨some 14,.mv (.t 0),some (13,false)⟩,
 ⟨some 15,.bin .eql (.t 14) (.c (.d (.int .u8 32))),some (13,false)⟩,
 Qo 16 (.pick (.t 13) (.c (.d (.bool true))) (.t 15)),
 Qm 2 16] [2])
 .ret))
noncomputable def IJ:Cx:=⟨Tryz.prog,58,Tryz.f58,17,[],[],[.t 2]⟩
theorem UA:Good IJ:=⟨Tryz.func58,by kernel_rfl⟩
theorem ZO:IJ.rs=[.t 2]:=rfl
theorem aH (hl:args.length≤17) (h:Run IJ K [.code Tq] (At args) E σ):AP Tryz.prog 58 args σ K:=
 AX (cx:=IJ) (code:=Tryz.f58.body.getD .skip) UA (by kernel_rfl) Tryz.ntmps58 hl (AZ IJ _ (Ax Tq) _ [] (by kernel_rfl)) h
def VF:C:=(.seq (.reg [Qo 4 (.al [(.d (.int .i64 0)),(.d (.str [])),(.d (.int .i64 0))] false),
 Qo 5 (.mv (.c (.d (.int .i64 0))))] [0,1,4])
 (.seq (.reg [Qm 8 1,
 Qo 9 (.bld [(.d (.int .i64 0)),(.d (.str [])),(.d (.int .i64 0))] [(2,1,(.t 8))]),
 Qo 6 (.al [(.d (.int .i64 0)),(.d (.str [])),(.d (.int .i64 0))] false),
 ⟨none,.st (.t 6) (.t 9) 3,none⟩] [0,1,4,6])
 (.seq (.seq (.reg [Qm 10 0,
 Qm 11 1,
 Qo 12 (.Ob (.t 10) (.t 11)),
 Qm 7 12] [0,1,4,6,7])
 (.block 0 (.seq (.reg [Qm 24 7,
 Qo 25 (.call 112 [(.t 24)]),
 Qm 26 25,
 ⟨some 27,.mv (.t 7),some (26,false)⟩,
 ⟨some 28,.call 113 [(.t 27)],some (26,false)⟩,
 Qo 29 (.pick (.t 26) (.c (.d (.bool true))) (.t 28)),
 Qm 23 29] [0,1,4,6,7,23])
 (.cond (.t 23) (.seq (.reg [Qm 30 0,
 Qm 31 1,
 Qo 32 (.ssl (.t 30) (some (.t 31)) none),
 Qo 33 (.call 114 [(.t 32),(.c (.fn 115 [] []))]),
 Qo 34 (.fld (.t 6) 1),
 ⟨none,.st (.t 34) (.t 33) 1,none⟩] [4,6,7])
 (.block 1 (.seq (.reg [Qo 37 (.fld (.t 6) 1),
 Qo 38 (.ldl (.t 37) none),
 Qo 39 (.J3 (.t 38)),
 Qo 40 (.bin .gtr (.t 39) (.c (.d (.int .i64 24)))),
 Qm 36 40] [4,6,7,36])
 (.cond (.t 36) (.seq (.reg [Qo 41 (.bld [(.d (.int .i64 0)),(.d (.str [])),(.d (.int .i64 0))] []),
 ⟨none,.st (.t 4) (.t 41) 3,none⟩,
 Qo 5 (.mv (.c (.d (.int .i64 9))))] [4,5])
 .ret)
 (.seq (.reg [Qm 43 7,
 Qo 44 (.call 113 [(.t 43)]),
 Qm 42 44] [4,6,42])
 (.cond (.t 42) (.reg [Qo 45 (.fld (.t 6) 0),
 ⟨none,.st (.t 45) (.c (.d (.int .i64 2))) 1,none⟩] [4,6])
 (.seq (.reg [Qo 47 (.fld (.t 6) 1),
 Qo 48 (.ldl (.t 47) none),
 Qo 49 (.call 116 [(.t 48)]),
 Qm 46 49] [4,6,46])
 (.cond (.t 46) (.reg [Qo 50 (.fld (.t 6) 0),
 ⟨none,.st (.t 50) (.c (.d (.int .i64 4))) 1,none⟩] [4,6])
 (.reg [Qo 35 (.fld (.t 6) 0),
 ⟨none,.st (.t 35) (.c (.d (.int .i64 1))) 1,none⟩] [4,6])))))))))
 (.seq (.reg [Qm 52 7,
 Qo 53 (.call 117 [(.t 52)]),
 Qm 51 53] [0,1,4,6,7,51])
 (.cond (.t 51) (.seq (.reg [Qo 54 (.fld (.t 6) 0),
 ⟨none,.st (.t 54) (.c (.d (.int .i64 3))) 1,none⟩] [0,1,4,6,7])
 (.seq (.reg [Qm 55 0,
 Qm 56 1,
 Qo 57 (.ssl (.t 55) (some (.t 56)) none),
 Qo 58 (.call 114 [(.t 57),(.c (.fn 117 [] []))]),
 Qo 59 (.fld (.t 6) 1),
 ⟨none,.st (.t 59) (.t 58) 1,none⟩] [4,6,7])
 (.seq (.seq (.reg [Qm 60 7,
 Qo 61 (.bin .eql (.t 60) (.c (.d (.int .u8 48)))),
 Qm 62 61,
 ⟨some 63,.fld (.t 6) 1,some (62,true)⟩,
 ⟨some 64,.ldl (.t 63) none,some (62,true)⟩,
 ⟨some 65,.J3 (.t 64),some (62,true)⟩,
 ⟨some 66,.bin .gtr (.t 65) (.c (.d (.int .i64 1))),some (62,true)⟩,
 Qo 67 (.pick (.t 62) (.t 66) (.c (.d (.bool false))))] [4,6,67])
 (.cond (.t 67) (.seq (.reg [Qo 68 (.bld [(.d (.int .i64 0)),(.d (.str [])),(.d (.int .i64 0))] []),
 ⟨none,.st (.t 4) (.t 68) 3,none⟩,
 Qo 5 (.mv (.c (.d (.int .i64 2))))] [4,5])
 .ret)
 .skip))
 (.seq (.reg [Qo 69 (.fld (.t 6) 1),
 Qo 70 (.ldl (.t 69) none),
 Qo 71 (.call 118 [(.t 70)]),
 Qo 72 (.un .not (.t 71))] [4,6,72])
 (.cond (.t 72) (.seq (.reg [Qo 73 (.bld [(.d (.int .i64 0)),(.d (.str [])),(.d (.int .i64 0))] []),
 ⟨none,.st (.t 4) (.t 73) 3,none⟩,
 Qo 5 (.mv (.c (.d (.int .i64 9))))] [4,5])
 .ret)
 .skip)))))
 (.seq (.reg [Qo 13 (.fld (.t 6) 0),
 ⟨none,.st (.t 13) (.c (.d (.int .i64 5))) 1,none⟩] [0,1,4,6])
 (.seq (.reg [Qm 14 0,
 Qm 15 1,
 Qo 16 (.ssl (.t 14) (some (.t 15)) none),
 Qo 17 (.call 119 [(.t 16)]),
 Qo 18 (.fld (.t 6) 1),
 ⟨none,.st (.t 18) (.t 17) 1,none⟩] [4,6])
 (.seq (.reg [Qo 19 (.fld (.t 6) 1),
 Qo 20 (.ldl (.t 19) none),
 Qo 21 (.bin .eql (.t 20) (.c (.d (.str []))))] [4,6,21])
 (.cond (.t 21) (.seq (.reg [Qo 22 (.bld [(.d (.int .i64 0)),(.d (.str [])),(.d (.int .i64 0))] []),
 ⟨none,.st (.t 4) (.t 22) 3,none⟩,
 Qo 5 (.mv (.c (.d (.int .i64 2))))] [4,5])
 .ret)
 .skip))))))))))
 (.seq (.reg [Qo 74 (.ldl (.t 6) (some 3)),
 ⟨none,.st (.t 4) (.t 74) 3,none⟩,
 Qo 5 (.mv (.c (.d (.int .i64 0))))] [4,5])
 .ret))))
noncomputable def J8:Cx:=⟨Tryz.prog,59,Tryz.f59,75,[300038,300048,300064,300070,300020,300074],[],[.c 4 (some 3),.t 5]⟩
theorem VO:Good J8:=⟨Tryz.func59,by kernel_rfl⟩
theorem aS:J8.rs=[.c 4 (some 3),.t 5]:=rfl
theorem dQ (hl:args.length≤75) (h:Run J8 K [.code VF] (At args) E σ):AP Tryz.prog 59 args σ K:=
 AX (cx:=J8) (code:=Tryz.f59.body.getD .skip) VO (by kernel_rfl) Tryz.ntmps59 hl (AZ J8 _ (Ax VF) _ [] (by kernel_rfl)) h
def GA:C:=(.seq (.reg [Qo 4 (.mv (.c (.d (.bool false))))] [0,1])
 (.seq (.reg [Qm 5 0,
 Qm 6 1,
 Qo 7 (.call 195 [(.t 5),(.t 6)]),
 Qo 8 (.bin .geq (.t 7) (.c (.d (.int .i64 0)))),
 Qm 4 8] [4])
 .ret))
noncomputable def Bt:Cx:=⟨Tryz.prog,180,Tryz.f180,9,[],[],[.t 4]⟩
theorem GD:Good Bt:=⟨Tryz.func180,by kernel_rfl⟩
theorem K3:Bt.rs=[.t 4]:=rfl
theorem LO (hl:args.length≤9) (h:Run Bt K [.code GA] (At args) E σ):AP Tryz.prog 180 args σ K:=
 AX (cx:=Bt) (code:=Tryz.f180.body.getD .skip) GD (by kernel_rfl) Tryz.ntmps180 hl (AZ Bt _ (Ax GA) _ [] (by kernel_rfl)) h
def Iy:C:=(.seq (.reg [Qo 2 (.box (.t 0) false),
 Qo 3 (.mv (.c (.d (.bool false))))] [1,2])
 (.seq (.reg [Qo 4 (.ld (.t 1) none),
 Qo 5 (.ldl (.t 2) (some 8)),
 Qo 6 (.EY (.t 4) [(.t 5)]),
 Qo 7 (.un .not (.t 6)),
 Qm 3 7] [3])
 .ret))
noncomputable def DQ:Cx:=⟨Tryz.prog,181,Tryz.f181,8,[300005],[],[.t 3]⟩
theorem JN:Good DQ:=⟨Tryz.func181,by kernel_rfl⟩
theorem PQ:DQ.rs=[.t 3]:=rfl
theorem QC (hl:args.length≤8) (h:Run DQ K [.code Iy] (At args) E σ):AP Tryz.prog 181 args σ K:=
 AX (cx:=DQ) (code:=Tryz.f181.body.getD .skip) JN (by kernel_rfl) Tryz.ntmps181 hl (AZ DQ _ (Ax Iy) _ [] (by kernel_rfl)) h
def Ts:C:=(.seq (.reg [Qo 2 (.mv (.c (.d (.bool false))))] [0])
 (.seq (.reg [Qm 3 0,
 Qo 4 (.bin .geq (.t 3) (.c (.d (.int .u8 97)))),
 Qm 5 4,
 ⟨some 6,.mv (.t 0),some (5,true)⟩,
 ⟨some 7,.bin .leq (.t 6) (.c (.d (.int .u8 122))),some (5,true)⟩,
 Qo 8 (.pick (.t 5) (.t 7) (.c (.d (.bool false)))),
 Qm 2 8] [2])
 .ret))
noncomputable def IL:Cx:=⟨Tryz.prog,112,Tryz.f112,9,[],[],[.t 2]⟩
theorem UC:Good IL:=⟨Tryz.func112,by kernel_rfl⟩
theorem ZQ:IL.rs=[.t 2]:=rfl
theorem aJ (hl:args.length≤9) (h:Run IL K [.code Ts] (At args) E σ):AP Tryz.prog 112 args σ K:=
 AX (cx:=IL) (code:=Tryz.f112.body.getD .skip) UC (by kernel_rfl) Tryz.ntmps112 hl (AZ IL _ (Ax Ts) _ [] (by kernel_rfl)) h
def Tu:C:=(.seq (.reg [Qo 2 (.mv (.c (.d (.bool false))))] [0])
 (.seq (.reg [Qm 3 0,
 Qo 4 (.bin .geq (.t 3) (.c (.d (.int .u8 65)))),
 Qm 5 4,
 ⟨some 6,.mv (.t 0),some (5,true)⟩,
 ⟨some 7,.bin .leq (.t 6) (.c (.d (.int .u8 90))),some (5,true)⟩,
 Qo 8 (.pick (.t 5) (.t 7) (.c (.d (.bool false)))),
 Qm 2 8] [2])
 .ret))
noncomputable def IN:Cx:=⟨Tryz.prog,113,Tryz.f113,9,[],[],[.t 2]⟩
theorem UD:Good IN:=⟨Tryz.func113,by kernel_rfl⟩
theorem ZS:IN.rs=[.t 2]:=rfl
theorem aL (hl:args.length≤9) (h:Run IN K [.code Tu] (At args) E σ):AP Tryz.prog 113 args σ K:=
 AX (cx:=IN) (code:=Tryz.f113.body.getD .skip) UD (by kernel_rfl) Tryz.ntmps113 hl (AZ IN _ (Ax Tu) _ [] (by kernel_rfl)) h
def VE:C:=(.seq (.seq (.reg [Qm 6 5,
 Qm 7 0,
 Qo 8 (.J3 (.t 7)),
 Qo 9 (.bin .lss (.t 6) (.t 8)),
 Qm 10 9,
 ⟨some 11,.mv (.t 1),some (10,true)⟩,
 ⟨some 12,.mv (.t 0),some (10,true)⟩,
 ⟨some 13,.mv (.t 5),some (10,true)⟩,
 ⟨some 14,.Ob (.t 12) (.t 13),some (10,true)⟩,
 ⟨some 15,.EY (.t 11) [(.t 14)],some (10,true)⟩,
 Qo 16 (.pick (.t 10) (.t 15) (.c (.d (.bool false))))] [0,1,5,16])
 (.cond (.t 16) .skip
 (.exit 0)))
 (.block 1 (.reg [Qm 17 5,
 Qo 18 (.bin .add (.t 17) (.c (.d (.int .i64 1)))),
 Qm 5 18] [0,1,5])))
def Rr:C:=(.seq (.reg [Qo 4 (.mv (.c (.d (.str []))))] [0,1])
 (.seq (.reg [Qo 5 (.mv (.c (.d (.int .i64 0))))] [0,1,5])
 (.seq (.block 0 (.loop VE))
 (.seq (.reg [Qm 19 0,
 Qm 20 5,
 Qo 21 (.ssl (.t 19) none (some (.t 20))),
 Qm 4 21] [4])
 .ret))))
noncomputable def H0:Cx:=⟨Tryz.prog,114,Tryz.f114,22,[],[],[.t 4]⟩
theorem NG:Good H0:=⟨Tryz.func114,by kernel_rfl⟩
theorem X1:H0.rs=[.t 4]:=rfl
theorem Ye (hl:args.length≤22) (h:Run H0 K [.code Rr] (At args) E σ):AP Tryz.prog 114 args σ K:=
 AX (cx:=H0) (code:=Tryz.f114.body.getD .skip) NG (by kernel_rfl) Tryz.ntmps114 hl (AZ H0 _ (Ax Rr) _ [] (by kernel_rfl)) h
def Rs:C:=(.seq (.reg [Qo 2 (.mv (.c (.d (.bool false))))] [0])
 (.seq (.reg [Qm 3 0,
 Qo 4 (.call 112 [(.t 3)]),
 Qm 5 4,
 ⟨some 6,.mv (.t 0),some (5,false)⟩,
 ⟨some 7,.call 113 [(.t 6)],some (5,false)⟩,
 Qo 8 (.pick (.t 5) (.c (.d (.bool true))) (.t 7)),
 Qm 9 8,
 ⟨some 10,.mv (.t 0),some (9,false)⟩,
 ⟨some 11,.call 117 [(.t 10)],some (9,false)⟩,
 Qo 12 (.pick (.t 9) (.c (.d (.bool true))) (.t 11)),
 Qm 13 12,
 ⟨some 14,.mv (.t 0),some (13,false)⟩,
 ⟨some 15,.bin .eql (.t 14) (.c (.d (.int .u8 95))),some (13,false)⟩,
 Qo 16 (.pick (.t 13) (.c (.d (.bool true))) (.t 15)),
 Qm 2 16] [2])
 .ret))
noncomputable def H2:Cx:=⟨Tryz.prog,115,Tryz.f115,17,[],[],[.t 2]⟩
theorem SB:Good H2:=⟨Tryz.func115,by kernel_rfl⟩
theorem X2:H2.rs=[.t 2]:=rfl
theorem Yf (hl:args.length≤17) (h:Run H2 K [.code Rs] (At args) E σ):AP Tryz.prog 115 args σ K:=
 AX (cx:=H2) (code:=Tryz.f115.body.getD .skip) SB (by kernel_rfl) Tryz.ntmps115 hl (AZ H2 _ (Ax Rs) _ [] (by kernel_rfl)) h
def Qp:C:=(.seq (.reg [Qo 2 (.mv (.c (.d (.bool false))))] [0])
 (.seq (.seq (.reg [Qm 3 0] [3])
 (.block 0 (.seq (.seq (.reg [Qo 5 (.bin .eql (.t 3) (.c (.d (.str [97,114,114,97,121])))),
 Qm 4 5] [3,4])
 (.cond (.t 4) .skip
 (.seq (.reg [Qo 6 (.bin .eql (.t 3) (.c (.d (.str [98,111,111,108])))),
 Qm 4 6] [3,4])
 (.cond (.t 4) .skip
 (.seq (.reg [Qo 7 (.bin .eql (.t 3) (.c (.d (.str [99,97,116,99,104])))),
 Qm 4 7] [3,4])
 (.cond (.t 4) .skip
 (.seq (.reg [Qo 8 (.bin .eql (.t 3) (.c (.d (.str [100,97,116,97])))),
 Qm 4 8] [3,4])
 (.cond (.t 4) .skip
 (.seq (.reg [Qo 9 (.bin .eql (.t 3) (.c (.d (.str [101,108,115,101])))),
 Qm 4 9] [3,4])
 (.cond (.t 4) .skip
 (.seq (.reg [Qo 10 (.bin .eql (.t 3) (.c (.d (.str [101,110,100])))),
 Qm 4 10] [3,4])
 (.cond (.t 4) .skip
 (.seq (.reg [Qo 11 (.bin .eql (.t 3) (.c (.d (.str [102,97,108,115,101])))),
 Qm 4 11] [3,4])
 (.cond (.t 4) .skip
 (.seq (.reg [Qo 12 (.bin .eql (.t 3) (.c (.d (.str [102,110])))),
 Qm 4 12] [3,4])
 (.cond (.t 4) .skip
 (.seq (.reg [Qo 13 (.bin .eql (.t 3) (.c (.d (.str [102,117,110])))),
 Qm 4 13] [3,4])
 (.cond (.t 4) .skip
 (.seq (.reg [Qo 14 (.bin .eql (.t 3) (.c (.d (.str [103,101,116])))),
 Qm 4 14] [3,4])
 (.cond (.t 4) .skip
 (.seq (.reg [Qo 15 (.bin .eql (.t 3) (.c (.d (.str [105,102])))),
 Qm 4 15] [3,4])
 (.cond (.t 4) .skip
 (.seq (.reg [Qo 16 (.bin .eql (.t 3) (.c (.d (.str [105,110])))),
 Qm 4 16] [3,4])
 (.cond (.t 4) .skip
 (.seq (.reg [Qo 17 (.bin .eql (.t 3) (.c (.d (.str [105,110,116])))),
 Qm 4 17] [3,4])
 (.cond (.t 4) .skip
 (.seq (.reg [Qo 18 (.bin .eql (.t 3) (.c (.d (.str [108,101,110])))),
 Qm 4 18] [3,4])
 (.cond (.t 4) .skip
 (.seq (.reg [Qo 19 (.bin .eql (.t 3) (.c (.d (.str [108,101,116])))),
 Qm 4 19] [3,4])
 (.cond (.t 4) .skip
 (.seq (.reg [Qo 20 (.bin .eql (.t 3) (.c (.d (.str [109,97,116,99,104])))),
 Qm 4 20] [3,4])
 (.cond (.t 4) .skip
 (.seq (.reg [Qo 21 (.bin .eql (.t 3) (.c (.d (.str [110,101,119])))),
 Qm 4 21] [3,4])
 (.cond (.t 4) .skip
 (.seq (.reg [Qo 22 (.bin .eql (.t 3) (.c (.d (.str [114,97,105,115,101])))),
 Qm 4 22] [3,4])
 (.cond (.t 4) .skip
 (.seq (.reg [Qo 23 (.bin .eql (.t 3) (.c (.d (.str [114,101,97,100])))),
 Qm 4 23] [3,4])
 (.cond (.t 4) .skip
 (.seq (.reg [Qo 24 (.bin .eql (.t 3) (.c (.d (.str [114,101,102])))),
 Qm 4 24] [3,4])
 (.cond (.t 4) .skip
 (.seq (.reg [Qo 25 (.bin .eql (.t 3) (.c (.d (.str [115,101,116])))),
 Qm 4 25] [3,4])
 (.cond (.t 4) .skip
 (.seq (.reg [Qo 26 (.bin .eql (.t 3) (.c (.d (.str [116,104,101,110])))),
 Qm 4 26] [3,4])
 (.cond (.t 4) .skip
 (.seq (.reg [Qo 27 (.bin .eql (.t 3) (.c (.d (.str [116,105,99,107])))),
 Qm 4 27] [3,4])
 (.cond (.t 4) .skip
 (.seq (.reg [Qo 28 (.bin .eql (.t 3) (.c (.d (.str [116,114,117,101])))),
 Qm 4 28] [3,4])
 (.cond (.t 4) .skip
 (.seq (.reg [Qo 29 (.bin .eql (.t 3) (.c (.d (.str [116,114,121])))),
 Qm 4 29] [3,4])
 (.cond (.t 4) .skip
 (.seq (.reg [Qo 30 (.bin .eql (.t 3) (.c (.d (.str [117,110,105,116])))),
 Qm 4 30] [3,4])
 (.cond (.t 4) .skip
 (.seq (.reg [Qo 31 (.bin .eql (.t 3) (.c (.d (.str [119,105,116,104])))),
 Qm 4 31] [3,4])
 (.cond (.t 4) .skip
 (.reg [Qo 32 (.bin .eql (.t 3) (.c (.d (.str [119,114,105,116,101])))),
 Qm 4 32] [4])))))))))))))))))))))))))))))))))))))))))))))))))))))))
 (.cond (.t 4) (.seq (.reg [Qo 2 (.mv (.c (.d (.bool true))))] [2])
 .ret)
 .skip))))
 (.seq (.reg [Qo 2 (.mv (.c (.d (.bool false))))] [2])
 .ret)))
noncomputable def Ge:Cx:=⟨Tryz.prog,116,Tryz.f116,33,[],[],[.t 2]⟩
theorem Qs:Good Ge:=⟨Tryz.func116,by kernel_rfl⟩
theorem W0:Ge.rs=[.t 2]:=rfl
theorem XN (hl:args.length≤33) (h:Run Ge K [.code Qp] (At args) E σ):AP Tryz.prog 116 args σ K:=
 AX (cx:=Ge) (code:=Tryz.f116.body.getD .skip) Qs (by kernel_rfl) Tryz.ntmps116 hl (AZ Ge _ (Ax Qp) _ [] (by kernel_rfl)) h
def Tr:C:=(.seq (.reg [Qo 2 (.mv (.c (.d (.bool false))))] [0])
 (.seq (.reg [Qm 3 0,
 Qo 4 (.bin .geq (.t 3) (.c (.d (.int .u8 48)))),
 Qm 5 4,
 ⟨some 6,.mv (.t 0),some (5,true)⟩,
 ⟨some 7,.bin .leq (.t 6) (.c (.d (.int .u8 57))),some (5,true)⟩,
 Qo 8 (.pick (.t 5) (.t 7) (.c (.d (.bool false)))),
 Qm 2 8] [2])
 .ret))
noncomputable def IK:Cx:=⟨Tryz.prog,117,Tryz.f117,9,[],[],[.t 2]⟩
theorem UB:Good IK:=⟨Tryz.func117,by kernel_rfl⟩
theorem ZP:IK.rs=[.t 2]:=rfl
theorem aI (hl:args.length≤9) (h:Run IK K [.code Tr] (At args) E σ):AP Tryz.prog 117 args σ K:=
 AX (cx:=IK) (code:=Tryz.f117.body.getD .skip) UB (by kernel_rfl) Tryz.ntmps117 hl (AZ IK _ (Ax Tr) _ [] (by kernel_rfl)) h
def Vs:C:=(.seq (.reg [Qo 8 (.bin .lss (.t 7) (.t 6))] [0,3,6,7,8])
 (.seq (.cond (.t 8) .skip
 (.exit 0))
 (.seq (.block 1 (.seq (.reg [Qm 9 7,
 Qm 4 9] [0,3,4,6,7])
 (.seq (.reg [Qm 10 3,
 Qo 11 (.bin .mul (.t 10) (.c (.d (.int .i64 10)))),
 Qm 12 0,
 Qm 13 4,
 Qo 14 (.Ob (.t 12) (.t 13)),
 Qo 15 (.bin .sub (.t 14) (.c (.d (.int .u8 48)))),
 Qo 16 (.conv .i64 (.t 15)),
 Qo 17 (.bin .add (.t 11) (.t 16)),
 Qm 3 17] [0,3,6,7])
 (.seq (.reg [Qm 18 3,
 Qo 19 (.bin .gtr (.t 18) (.c (.d (.int .i64 1000000))))] [0,3,6,7,19])
 (.cond (.t 19) (.seq (.reg [Qo 2 (.mv (.c (.d (.bool false))))] [2])
 .ret)
 .skip)))))
 (.reg [Qo 20 (.bin .add (.t 7) (.c (.d (.int .i64 1)))),
 Qm 7 20] [0,3,6,7]))))
def Tt:C:=(.seq (.reg [Qo 2 (.mv (.c (.d (.bool false))))] [0])
 (.seq (.reg [Qo 3 (.mv (.c (.d (.int .i64 0))))] [0,3])
 (.seq (.seq (.reg [Qm 5 0,
 Qo 6 (.J3 (.t 5)),
 Qo 7 (.mv (.c (.d (.int .i64 0))))] [0,3,6,7])
 (.block 0 (.loop Vs)))
 (.seq (.reg [Qo 2 (.mv (.c (.d (.bool true))))] [2])
 .ret))))
noncomputable def IM:Cx:=⟨Tryz.prog,118,Tryz.f118,21,[],[],[.t 2]⟩
theorem OR:Good IM:=⟨Tryz.func118,by kernel_rfl⟩
theorem ZR:IM.rs=[.t 2]:=rfl
theorem aK (hl:args.length≤21) (h:Run IM K [.code Tt] (At args) E σ):AP Tryz.prog 118 args σ K:=
 AX (cx:=IM) (code:=Tryz.f118.body.getD .skip) OR (by kernel_rfl) Tryz.ntmps118 hl (AZ IM _ (Ax Tt) _ [] (by kernel_rfl)) h
def VG:C:=(.seq (.reg [Qo 2 (.mv (.c (.d (.str []))))] [0])
 (.seq (.seq (.reg [Qm 3 0,
 Qo 4 (.J3 (.t 3)),
 Qo 5 (.bin .geq (.t 4) (.c (.d (.int .i64 2))))] [0,5])
 (.cond (.t 5) (.seq (.reg [Qm 6 0,
 Qo 7 (.ssl (.t 6) none (some (.c (.d (.int .i64 2)))))] [0,7])
 (.block 0 (.seq (.seq (.reg [Qo 9 (.bin .eql (.t 7) (.c (.d (.str [45,62])))),
 Qm 8 9] [0,7,8])
 (.cond (.t 8) .skip
 (.seq (.reg [Qo 10 (.bin .eql (.t 7) (.c (.d (.str [60,61])))),
 Qm 8 10] [0,7,8])
 (.cond (.t 8) .skip
 (.reg [Qo 11 (.bin .eql (.t 7) (.c (.d (.str [61,61])))),
 Qm 8 11] [0,8])))))
 (.cond (.t 8) (.seq (.reg [Qm 12 0,
 Qo 13 (.ssl (.t 12) none (some (.c (.d (.int .i64 2))))),
 Qm 2 13] [2])
 .ret)
 .skip))))
 .skip))
 (.seq (.seq (.reg [Qm 14 0,
 Qo 15 (.ssl (.t 14) none (some (.c (.d (.int .i64 1)))))] [0,15])
 (.block 1 (.seq (.seq (.reg [Qo 17 (.bin .eql (.t 15) (.c (.d (.str [40])))),
 Qm 16 17] [0,15,16])
 (.cond (.t 16) .skip
 (.seq (.reg [Qo 18 (.bin .eql (.t 15) (.c (.d (.str [41])))),
 Qm 16 18] [0,15,16])
 (.cond (.t 16) .skip
 (.seq (.reg [Qo 19 (.bin .eql (.t 15) (.c (.d (.str [44])))),
 Qm 16 19] [0,15,16])
 (.cond (.t 16) .skip
 (.seq (.reg [Qo 20 (.bin .eql (.t 15) (.c (.d (.str [61])))),
 Qm 16 20] [0,15,16])
 (.cond (.t 16) .skip
 (.seq (.reg [Qo 21 (.bin .eql (.t 15) (.c (.d (.str [124])))),
 Qm 16 21] [0,15,16])
 (.cond (.t 16) .skip
 (.seq (.reg [Qo 22 (.bin .eql (.t 15) (.c (.d (.str [43])))),
 Qm 16 22] [0,15,16])
 (.cond (.t 16) .skip
 (.seq (.reg [Qo 23 (.bin .eql (.t 15) (.c (.d (.str [45])))),
 Qm 16 23] [0,15,16])
 (.cond (.t 16) .skip
 (.seq (.reg [Qo 24 (.bin .eql (.t 15) (.c (.d (.str [42])))),
 Qm 16 24] [0,15,16])
 (.cond (.t 16) .skip
 (.seq (.reg [Qo 25 (.bin .eql (.t 15) (.c (.d (.str [47])))),
 Qm 16 25] [0,15,16])
 (.cond (.t 16) .skip
 (.seq (.reg [Qo 26 (.bin .eql (.t 15) (.c (.d (.str [37])))),
 Qm 16 26] [0,15,16])
 (.cond (.t 16) .skip
 (.seq (.reg [Qo 27 (.bin .eql (.t 15) (.c (.d (.str [60])))),
 Qm 16 27] [0,15,16])
 (.cond (.t 16) .skip
 (.seq (.reg [Qo 28 (.bin .eql (.t 15) (.c (.d (.str [59])))),
 Qm 16 28] [0,15,16])
 (.cond (.t 16) .skip
 (.reg [Qo 29 (.bin .eql (.t 15) (.c (.d (.str [95])))),
 Qm 16 29] [0,16])))))))))))))))))))))))))
 (.cond (.t 16) (.seq (.reg [Qm 30 0,
 Qo 31 (.ssl (.t 30) none (some (.c (.d (.int .i64 1))))),
 Qm 2 31] [2])
 .ret)
 .skip))))
 (.seq (.reg [Qo 2 (.mv (.c (.d (.str []))))] [2])
 .ret))))
noncomputable def J9:Cx:=⟨Tryz.prog,119,Tryz.f119,32,[],[],[.t 2]⟩
theorem QB:Good J9:=⟨Tryz.func119,by kernel_rfl⟩
theorem aT:J9.rs=[.t 2]:=rfl
theorem VS (hl:args.length≤32) (h:Run J9 K [.code VG] (At args) E σ):AP Tryz.prog 119 args σ K:=
 AX (cx:=J9) (code:=Tryz.f119.body.getD .skip) QB (by kernel_rfl) Tryz.ntmps119 hl (AZ J9 _ (Ax VG) _ [] (by kernel_rfl)) h
def Kh:C:=(.seq (.reg [Qo 9 (.bin .lss (.t 8) (.t 7))] [0,1,7,8,9])
 (.seq (.cond (.t 9) .skip
 (.exit 0))
 (.seq (.block 1 (.seq (.reg [Qm 10 8,
 Qm 5 10] [0,1,5,7,8])
 (.seq (.reg [Qm 11 1,
 Qm 12 0,
 Qm 13 5,
 Qo 14 (.ix (.t 12) (.t 13) 8),
 Qo 15 (.ld (.t 14) (some 8)),
 Qo 16 (.EY (.t 11) [(.t 15)])] [0,1,5,7,8,16])
 (.cond (.t 16) (.seq (.reg [Qm 17 5,
 Qm 4 17] [4])
 .ret)
 .skip))))
 (.reg [Qo 18 (.bin .add (.t 8) (.c (.d (.int .i64 1)))),
 Qm 8 18] [0,1,7,8]))))
def Gy:C:=(.seq (.reg [Qo 4 (.mv (.c (.d (.int .i64 0))))] [0,1])
 (.seq (.seq (.reg [Qm 6 0,
 Qo 7 (.len (.t 6)),
 Qo 8 (.mv (.c (.d (.int .i64 0))))] [0,1,7,8])
 (.block 0 (.loop Kh)))
 (.seq (.reg [Qo 4 (.mv (.c (.d (.int .i64 (-1)))))] [4])
 .ret)))
noncomputable def C1:Cx:=⟨Tryz.prog,195,Tryz.f195,19,[],[],[.t 4]⟩
theorem Er:Good C1:=⟨Tryz.func195,by kernel_rfl⟩
theorem Md:C1.rs=[.t 4]:=rfl
theorem NI (hl:args.length≤19) (h:Run C1 K [.code Gy] (At args) E σ):AP Tryz.prog 195 args σ K:=
 AX (cx:=C1) (code:=Tryz.f195.body.getD .skip) Er (by kernel_rfl) Tryz.ntmps195 hl (AZ C1 _ (Ax Gy) _ [] (by kernel_rfl)) h
attribute [go_sem] iO XY eR iP XV Lt MT WZ Sb QZ iI XU Vd Ns KF NX P2 Tb Vc LV QY Ta iL iM iK aR iJ lW I1 Me ID Lu R9 ZN NW T9 X0 WY RW Uh Vb T8 Jf J0 ZO aS K3 PQ ZQ ZS X1 X2 W0 ZP ZR aT Md
end Go.Ab
