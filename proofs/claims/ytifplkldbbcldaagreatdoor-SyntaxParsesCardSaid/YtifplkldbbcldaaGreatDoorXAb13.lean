/- The equations that run compact code, as one set. The types of package api as plain data, and how they lie in abstract values. The programs of package api as plain data, and how they lie in abstract values. Rules for walks that split and call by themselves. The compact codes of the functions of this seat, computed out of the translation. Conditions: none. -/
import Derived.Test.YtifplkldbbcldaaGreatDoorProg
import Derived.KernelRfl
import Derived.Test.YtifplkldbbcldaaGreatDoorXLift
set_option linter.unusedSimpArgs false
set_option linter.unusedVariables false
set_option maxRecDepth 4000
set_option maxHeartbeats 8000000
open Option renaming bind_some→Cn,map_some→Cf,bind_eq_bind→AU
open List renaming map_cons→AB,map_nil→AE,all_cons→CC,all_nil→Lv,length_cons→AG,length_nil→AI,getElem?_cons_zero→F8,getElem?_cons_succ→ZH,take_succ_cons→UN,take_zero→Ku,cons_append→Ae,nil_append→A6,append_nil→Ap,getElem?_map→BC,getElem?_eq_some_iff→A3
open Bool renaming and_true→BR,true_and→Bg,or_false→NA,and_false→G6,false_eq_true→AL,eq_iff_iff→Ds,not_eq_true'→CZ
open Nat renaming add_zero→E9,zero_add→Bd,le_refl→A4
namespace Go.Ab
attribute [go_sem] AFI ABB ABA ABC AA9 exP U7 mN zR zL uC tW rO rI zY zT AEW AEQ wH wC oM pD AD6 gC ABD AEF ABH AFJ AEE AED ABL ABO AD9 ABG fdA sV eN fB MJ yN r3 lF iT sA mY yW Option.map_none false_implies true_implies AEH AEG ABP ABQ AEC yE AFR ABK AD5 AFP AFO ABM AD7 ABN AD0 ABE AFT ABJ AD1 AD3 AD8 AD4 AEB AFQ AD2 AFH ABF ADY AFS yF ABI yD ADZ yC AEA AFN AFL AEX AEY sP Jg wP AEI AEM uV rT rS mI nF AAG nE sO AF7 AF6 ixA ixR Int.toNat_natCast Int.natCast_nonneg tH gP nO rvA yO lH qU lE qT uA tZ tX lG uB tY qV iH uS iV mD iR mC rM rL rJ iU rN rK mE fW Kg sC vT r9 Fu zW Jd zU sB zX zV vU mP AFW yY ACU yV ACT AEU AET AER yX AEV AES ACV uI sS wZ sR ADN rX vJ rW zH zI AC5 gI VH sI mX XD wF wE wD mZ wG plain_fn sJ jO AV.E7 Cut kT AA8 AA7 AA6 jM lR rdC ldA eY rG qN dR unA q6 vR stA wr Ip dvs chunk xvs Ag AAF sN AC8 r7 vO rZ vN zP zO zM r4 zQ zN vP mK AZ AN Ep lO Cn Cf AU Option.pure_def AB AE CC Lv AG AI F8 ZH UN Ku List.drop_succ_cons List.drop_zero List.take_nil List.drop_nil Ae A6 Ap Bool.and_self BR Bg Bool.or_true Bool.true_or NA Bool.false_or Bool.not_true Bool.not_false G6 Bool.false_and Bool.not_not BEq.rfl beq_self_eq_true E9 Bd decide_true decide_false A4 and_self and_true true_and ite_true ite_false AL Bool.cond_true Bool.cond_false beq_true beq_false Bool.true_beq Bool.false_beq
def Aw:C→List (List Nat×PT)
 | .reg _ l=>[(l,.done)]
 | .Q8 _ l=>[(l,.done)]
 | .seq x y=>Aw x++Aw y
 | .cond _ t e=>Aw t++Aw e
 | .block _ c=>Aw c
 | .loop c=>Aw c
 | .scope c=>Aw c
 |_=>[]
@[reducible] def Qo (d:Nat) (o:O):Q:=⟨some d,o,none⟩
@[reducible] def Qm (d s:Nat):Q:=⟨some d,.mv (.t s),none⟩
attribute [go_sem] Qo Qm
end Go.Ab
namespace Go.Ab
inductive Ty where
 |mk (kind num:Int) (args:List Ty)
def Ty.kind:Ty→Int| .mk k _ _=>k
def Ty.num:Ty→Int| .mk _ n _=>n
def Ty.args:Ty→List Ty| .mk _ _ l=>l
mutual
def Ty.enc:Ty→List DV
 | .mk k n l=>[.int .i64 k,.int .i64 n,.sl (Ty.Np l)]
def Ty.Np:List Ty→List (List DV)
 |[]=>[]
 |t::l=>Ty.enc t::Ty.Np l
end
mutual
def Ty.size:Ty→Nat
 | .mk _ _ l=>1+Ty.BY l
def Ty.BY:List Ty→Nat
 |[]=>0
 |t::l=>Ty.size t+Ty.BY l
end
def tyA (t:Ty):AV:= .agg (t.enc.map AV.d)
def AF5 (l:List Ty):AV:= .d (.sl (Ty.Np l))
theorem My {α:Type} {l:List α} {i:Nat} {x:α} (h:l[i]?=some x):l.take (i+1)=l.take i++[x]:=by
 rw [List.take_add_one,h];rfl
theorem FV:∀(l m:List Ty),Ty.BY (l++m)=Ty.BY l+Ty.BY m
 |[],m=>by simp [Ty.BY]
 |u::l,m=>by simp only [Ae,Ty.BY,FV l m];omega
theorem size_pos:∀t:Ty,1≤t.size
 | .mk _ _ _=>by simp [Ty.size]
theorem Hl:∀l:List Ty,l.length≤Ty.BY l
 |[]=>by simp [Ty.BY]
 |t::l=>by have:=Hl l;have:=size_pos t;simp only [AG,Ty.BY];omega
end Go.Ab
namespace Go.Ab
abbrev Str:=List UInt8
inductive TE where
 |mk (kind:Int) (name:Str) (args:List TE)
structure CE where
 name:Str
 args:List TE
structure DE where
 name:Str
 vars:List Str
 cons:List CE
mutual
inductive Ex where
 |mk (op:Int) (name:Str) (num:Int) (names:List Str) (kids:List Ex) (alts:List Al)
inductive Al where
 |mk (con:Str) (vars:List Str) (body:Ex)
end
structure FE where
 name:Str
 params:List Str
 body:Ex
structure Pg where
 data:List DE
 Zc:List FE
def Br (s:Str):List DV:=[.str s]
def ssD (l:List Str):DV:= .sl (l.map Br)
mutual
def TE.enc:TE→List DV
 | .mk k n l=>[.int .i64 k,.str n,.sl (TE.Np l)]
def TE.Np:List TE→List (List DV)
 |[]=>[]
 |t::l=>TE.enc t::TE.Np l
end
theorem TE.IK:∀l:List TE,TE.Np l=l.map TE.enc
 |[]=>rfl
 |t::l=>by simp [TE.Np,TE.IK l]
theorem TE.AS (k:Int) (n:Str) (l:List TE):(TE.mk k n l).enc=[.int .i64 k,.str n,.sl (l.map TE.enc)]:=by
 simp [TE.enc,TE.IK]
mutual
def Ex.enc:Ex→List DV
 | .mk o n u ns ks aS=>[.int .i64 o,.str n,.int .i64 u,ssD ns,.sl (Ex.Np ks),.sl (Al.Np aS)]
def Ex.Np:List Ex→List (List DV)
 |[]=>[]
 |t::l=>Ex.enc t::Ex.Np l
def Al.enc:Al→List DV
 | .mk c vs b=>.str c::ssD vs::Ex.enc b
def Al.Np:List Al→List (List DV)
 |[]=>[]
 |t::l=>Al.enc t::Al.Np l
end
theorem Ex.IK:∀l:List Ex,Ex.Np l=l.map Ex.enc
 |[]=>rfl
 |t::l=>by simp [Ex.Np,Ex.IK l]
theorem Al.IK:∀l:List Al,Al.Np l=l.map Al.enc
 |[]=>rfl
 |t::l=>by simp [Al.Np,Al.IK l]
theorem Ex.AS (o:Int) (n:Str) (u:Int) (ns:List Str) (ks:List Ex) (aS:List Al):(Ex.mk o n u ns ks aS).enc=[.int .i64 o,.str n,.int .i64 u,.sl (ns.map Br),.sl (ks.map Ex.enc),.sl (aS.map Al.enc)]:=by
 simp [Ex.enc,Ex.IK,Al.IK,ssD]
theorem Al.AS (c:Str) (vs:List Str) (o:Int) (n:Str) (u:Int) (ns:List Str) (ks:List Ex) (aS:List Al):(Al.mk c vs (.mk o n u ns ks aS)).enc=[.str c,.sl (vs.map Br),.int .i64 o,.str n,.int .i64 u,.sl (ns.map Br),.sl (ks.map Ex.enc),.sl (aS.map Al.enc)]:=by
 simp [Al.enc,Ex.AS,ssD]
def CE.enc (c:CE):List DV:=[.str c.name,.sl (c.args.map TE.enc)]
def DE.enc (d:DE):List DV:=[.str d.name,.sl (d.vars.map Br),.sl (d.cons.map CE.enc)]
def FE.enc (f:FE):List DV:= .str f.name::.sl (f.params.map Br)::f.body.enc
def Pg.enc (p:Pg):List DV:=[.sl (p.data.map DE.enc),.sl (p.Zc.map FE.enc)]
def teA (t:TE):AV:= .agg (t.enc.map AV.d)
def exA (e:Ex):AV:= .agg (e.enc.map AV.d)
def alA (e:Al):AV:= .agg (e.enc.map AV.d)
def ceA (c:CE):AV:= .agg (c.enc.map AV.d)
def deA (c:DE):AV:= .agg (c.enc.map AV.d)
def feA (c:FE):AV:= .agg (c.enc.map AV.d)
def pgA (p:Pg):AV:= .agg (p.enc.map AV.d)
theorem Ty.IK:∀l:List Ty,Ty.Np l=l.map Ty.enc
 |[]=>rfl
 |t::l=>by simp [Ty.Np,Ty.IK l]
theorem Bq {α:Type} {enc:α→List DV} {l:List α} {i:Nat} {x:α} (h:l[i]?=some x):(l.map enc)[i]?=some (enc x):=by
 rw [BC,h];rfl
theorem Ej {α:Type} {l:List α} {i:Nat} {x:α} (h:l[i]?=some x):l.drop i=x::l.drop (i+1):=by
 have hlt:=(A3.1 h).1
 rw [List.drop_eq_getElem_cons hlt];congr 1;exact (A3.1 h).2
theorem CF {α:Type} {l:List α} {i:Nat} (h:i < l.length):∃x,l[i]?=some x:=⟨l[i],by simp [h]⟩
mutual
def TE.size:TE→Nat
 | .mk _ _ l=>1+TE.BY l
def TE.BY:List TE→Nat
 |[]=>0
 |t::l=>TE.size t+TE.BY l
end
mutual
def Ex.size:Ex→Nat
 | .mk _ _ _ _ ks aS=>1+Ex.BY ks+Al.BY aS
def Ex.BY:List Ex→Nat
 |[]=>0
 |t::l=>Ex.size t+Ex.BY l
def Al.size:Al→Nat
 | .mk _ _ b=>Ex.size b
def Al.BY:List Al→Nat
 |[]=>0
 |t::l=>Al.size t+Al.BY l
end
theorem TE.size_pos:∀t:TE,1≤t.size
 | .mk _ _ _=>by simp [TE.size]
theorem Ex.size_pos:∀t:Ex,1≤t.size
 | .mk _ _ _ _ _ _=>by simp only [Ex.size];omega
theorem TE.VC {l:List TE} {t:TE} (h:t∈l):t.size≤TE.BY l:=by
 induction l with
 |nil=>cases h
 |cons u l ih=>
  simp only [TE.BY]
  cases h with
  |head=>omega
  |tail _ h=>have:=ih h;omega
theorem Ex.VC {l:List Ex} {t:Ex} (h:t∈l):t.size≤Ex.BY l:=by
 induction l with
 |nil=>cases h
 |cons u l ih=>
  simp only [Ex.BY]
  cases h with
  |head=>omega
  |tail _ h=>have:=ih h;omega
theorem Al.VC {l:List Al} {t:Al} (h:t∈l):t.size≤Al.BY l:=by
 induction l with
 |nil=>cases h
 |cons u l ih=>
  simp only [Al.BY]
  cases h with
  |head=>omega
  |tail _ h=>have:=ih h;omega
theorem TE.Hl:∀l:List TE,l.length≤TE.BY l
 |[]=>by simp [TE.BY]
 |t::l=>by have:=TE.Hl l;have:=TE.size_pos t;simp only [AG,TE.BY];omega
theorem Ex.Hl:∀l:List Ex,l.length≤Ex.BY l
 |[]=>by simp [Ex.BY]
 |t::l=>by have:=Ex.Hl l;have:=Ex.size_pos t;simp only [AG,Ex.BY];omega
theorem Al.Hl:∀l:List Al,l.length≤Al.BY l
 |[]=>by simp [Al.BY]
 | .mk _ _ b::l=>by have:=Al.Hl l;have:=Ex.size_pos b;simp only [AG,Al.BY,Al.size];omega
theorem TE.FV:∀(l m:List TE),TE.BY (l++m)=TE.BY l+TE.BY m
 |[],m=>by simp [TE.BY]
 |u::l,m=>by simp only [Ae,TE.BY,TE.FV l m];omega
theorem Ex.FV:∀(l m:List Ex),Ex.BY (l++m)=Ex.BY l+Ex.BY m
 |[],m=>by simp [Ex.BY]
 |u::l,m=>by simp only [Ae,Ex.BY,Ex.FV l m];omega
theorem Al.FV:∀(l m:List Al),Al.BY (l++m)=Al.BY l+Al.BY m
 |[],m=>by simp [Al.BY]
 |u::l,m=>by simp only [Ae,Al.BY,Al.FV l m];omega
end Go.Ab
namespace Go.Ab
open Go.RowKit
variable {P:Program} {K:Cd} {F:Fm} {L:Lm} {σ:AK}
theorem jQ {s:Nat} {v:AV} (h:F s=v):put s v F=F:=by
 funext t
 simp only [put]
 split
 · rename_i e;rw [← h];first|(subst e;rfl)|(rw [e])
 · rfl
theorem GS {d:Option Nat} {o:O} {s:Nat} {want b:Bool} {r:List Q} (hF:F s= .d (.bool b))
 (h1:b=true→BN P K (⟨d,o,some (s,want)⟩::r) (put s (.d (.bool true)) F) L σ) (h2:b=false→BN P K (⟨d,o,some (s,want)⟩::r) (put s (.d (.bool false)) F) L σ):
 BN P K (⟨d,o,some (s,want)⟩::r) F L σ:=by
 cases b
 · have:=h2 rfl;rw [jQ hF] at this;exact this
 · have:=h1 rfl;rw [jQ hF] at this;exact this
theorem AD.det {d:Option Nat} {f:FuncId} {args:List AV} {v:AV} (h:AP P f args σ (fun v' σ'=>v'=v∧σ'=σ)) (hk:K (At d v F) L σ) (hn:args.all AV.BL=true:=by rfl):AD P f args d K F L σ:=
 AD.mk hn h (fun v' σ' ⟨e1,e2⟩=>by subst e1;subst e2;exact hk)
theorem wrap_add {a b:Nat} (h:a+b≤9000000000000000000):IntKind.i64.wrap ((a:Int)+(b:Int))=((a+b:Nat):Int):=by
 rw [BF (by omega) (by omega)];omega
theorem BV {a:Nat} (h:a+1≤9000000000000000000):IntKind.i64.wrap ((a:Int)+1)=((a+1:Nat):Int):=by
 rw [BF (by omega) (by omega)];omega
theorem B1 {i n:Nat} (h:i < n):decide ((i:Int) < (n:Int))=true:=by simp [h]
theorem Ff {i n:Nat} (h:¬i < n):decide ((i:Int) < (n:Int))=false:=by simp;omega
theorem DL {s:List UInt8} {i:Nat} {b:UInt8} (h:s[i]?=some b) (k:IntKind):bE (.d (.str s)) (.d (.int k (i:Int)))=some (.d (.int .u8 b.toNat)):=by
 simp [bE,h]
theorem gU {s:List UInt8} {n:Nat} (h:n≤s.length):TS (.d (.str s)) none (some (.d (.int .i64 (n:Int))))=some (.d (.str (s.take n))):=by
 simp [TS,YN,Vz,h]
theorem xM {s:List UInt8} {n:Nat} (h:n≤s.length):TS (.d (.str s)) (some (.d (.int .i64 (n:Int)))) none=some (.d (.str (s.drop n))):=by
 simp [TS,YN,Vz,h]
theorem xL {s:List UInt8} {n m:Nat} (h:n≤m) (h2:m≤s.length):TS (.d (.str s)) (some (.d (.int .i64 (n:Int)))) (some (.d (.int .i64 (m:Int))))=some (.d (.str ((s.take m).drop n))):=by
 simp [TS,YN,Vz,h,h2]
theorem ABZ {b c:UInt8} {s:List UInt8}:TS (.d (.str (b::c::s))) none (some (.d (.int .i64 2)))=some (.d (.str [b,c])):=by
 rw [show (2:Int)=((2:Nat):Int) from rfl,gU (by simp)];rfl
theorem ABY {b:UInt8} {s:List UInt8}:TS (.d (.str (b::s))) none (some (.d (.int .i64 1)))=some (.d (.str [b])):=by
 rw [show (1:Int)=((1:Nat):Int) from rfl,gU (by simp)];rfl
theorem AA3 (b x:UInt8):((b.toNat:Int)==(x.toNat:Int))=(b==x):=by
 rw [Ds];simp only [beq_iff_eq,Int.natCast_inj,UInt8.toNat_inj]
theorem Run.Lg {cx:Cx} {KK:AV→AK→Prop} {k:List CI} (ks:List Nat) (h:Run cx KK k (Wy ks F) (Sy ks L) σ):Run cx KK k F L σ:=
 fun items base g lam Pr a w0 w b cs hi hf hb hk=>h items base g lam Pr a w0 w b cs hi (hf.kept ks) hb hk
def ctl (bl:Bool):List CI→Option (List CI)
 | .code .skip::k=>some k
 | .code (.seq x y)::k=>some (.code x::.code y::k)
 | .code (.block i c)::k=>if bl then some (.code c::.blk i::k) else none
 | .code (.scope c)::k=>some (.code c::.scp::k)
 | .blk _::k=>some k
 | .scp::k=>some k
 | .code (.exit i)::k=>Vi i k
 |_=>none
theorem Run.ctB {cx:Cx} {KK:AV→AK→Prop} (bl:Bool) {k k':List CI} (e:ctl bl k=some k') (h:Run cx KK k' F L σ):Run cx KK k F L σ:=by
 unfold ctl at e
 split at e
 · cases e;exact Run.skip h
 · cases e;exact Run.seq h
 · split at e
   · cases e;exact Run.block h
   · cases e
 · cases e;exact Run.scope h
 · cases e;exact Run.blk h
 · cases e;exact Run.scp h
 · exact Run.exit e h
 · cases e
theorem Run.ct {cx:Cx} {KK:AV→AK→Prop} {k k':List CI} (e:ctl true k=some k') (h:Run cx KK k' F L σ):Run cx KK k F L σ:=Run.ctB true e h
theorem Run.cb {cx:Cx} {KK:AV→AK→Prop} {k k':List CI} (e:ctl false k=some k') (h:Run cx KK k' F L σ):Run cx KK k F L σ:=Run.ctB false e h
attribute [go_sem] Nat.reduceEqDiff Nat.reduceBEq Nat.reduceAdd Nat.reduceLeDiff reduceIte reduceCtorEq
attribute [go_sem] dW AF5 tyA Ty.enc Ty.Np eq_self CZ Bool.not_eq_false'
end Go.Ab
namespace Go.Ab
open Go.Proofs
theorem mixed:Tryz.prog.follows .mixedOrders=true:=by kernel_rfl
@[reducible] def Qi (d:Nat) (n:Int):Q:=⟨some d,.mv (.c (.d (.int .i64 n))),none⟩
@[reducible] def Qb (d:Nat) (b:Bool):Q:=⟨some d,.mv (.c (.d (.bool b))),none⟩
@[reducible] def Qd (d s n:Nat):Q:=⟨some d,.fld (.t s) n,none⟩
@[reducible] def Ql (d s:Nat):Q:=⟨some d,.ldl (.t s) none,none⟩
@[reducible] def Qe (d s:Nat) (n:Int):Q:=⟨some d,.bin .eql (.t s) (.c (.d (.int .i64 n))),none⟩
@[reducible] def Qp (d s:Nat) (n:Int):Q:=⟨some d,.bin .add (.t s) (.c (.d (.int .i64 n))),none⟩
@[reducible] def Qa (d s u:Nat):Q:=⟨some d,.pick (.t s) (.t u) (.c (.d (.bool false))),none⟩
@[reducible] def Qr (d s u:Nat):Q:=⟨some d,.pick (.t s) (.c (.d (.bool true))) (.t u),none⟩
@[reducible] def Qc (d f s:Nat):Q:=⟨some d,.call f [.t s],none⟩
@[reducible] def Qk (d f s u:Nat):Q:=⟨some d,.call f [.t s,.t u],none⟩
@[reducible] def Qs (d f s:Nat) (l:List UInt8):Q:=⟨some d,.call f [.t s,.c (.d (.str l))],none⟩
@[reducible] def Qz (s u n:Nat):Q:=⟨none,.st (.t s) (.t u) n,none⟩
attribute [go_sem] Qi Qb Qd Ql Qe Qp Qa Qr Qc Qk Qs Qz
theorem mxQ:Tryz.prog.follows .mixedOrders=true:=mixed
theorem ctQ {cx:Cx} {KK:AV→AK→Prop} {k k':List CI} {F:Fm} {L:Lm} {σ:AK} (e:ctl true k=some k') (h:Run cx KK k' F L σ):Run cx KK k F L σ:=Run.ct e h
theorem rgQ {cx:Cx} {KK:AV→AK→Prop} {k:List CI} {F:Fm} {L:Lm} {σ:AK} {ops:List Q} {live:List Nat} (hm:cx.P.follows .mixedOrders=true) (h:BN cx.P (kT cx KK k live) ops F L σ):Run cx KK (.code (.reg ops live)::k) F L σ:=Run.reg hm h
theorem cdQ {cx:Cx} {KK:AV→AK→Prop} {k:List CI} {F:Fm} {L:Lm} {σ:AK} {x:X} {t e:C} (h:ZI (xv F x) (Run cx KK (.code t::k) F L σ) (Run cx KK (.code e::k) F L σ)):Run cx KK (.code (.cond x t e)::k) F L σ:=Run.AEP h
theorem AX {σ:AK} {i:Nat} {cs:List AV}:(σ.AH i cs).blk i=some cs:=by rw [AZ,if_pos rfl]
theorem Cg.w4 {σ σ':AK} {e s:Nat} {rows:List (List DV)} {v:AV} (h:Cg σ e s rows v σ'):v.BL=true∧(∀k,v.DF k=false)∧v.cells=[v]∧v.CB=true:=⟨h.BL,h.DF,h.cells,h.cell⟩
variable {args:List AV} {σ:AK} {K:AV→AK→Prop}
def cO:C:=(.seq (.seq (.reg [Qm 79 6,
 Qd 80 4 2,
 Ql 81 80,
 Qm 82 5,
 Qo 83 (.ix (.t 81) (.t 82) 2),
 Qd 84 83 1,
 Qo 85 (.ld (.t 84) none),
 Qo 86 (.len (.t 85)),
 Qo 87 (.bin .lss (.t 79) (.t 86))] [1,3,4,5,6,87])
 (.cond (.t 87) .skip
 (.exit 4)))
 (.seq (.block 5 (.seq (.reg [Qd 90 4 2,
 Ql 91 90,
 Qm 92 5,
 Qo 93 (.ix (.t 91) (.t 92) 2),
 Qd 94 93 1,
 Qo 95 (.ld (.t 94) none),
 Qm 96 6,
 Qo 97 (.ix (.t 95) (.t 96) 3),
 Qo 98 (.ld (.t 97) (some 3)),
 Qo 99 (.call 56 [(.t 98),(.c (.d (.int .i64 40)))]),
 Qo 100 (.un .not (.t 99))] [1,3,4,5,6,100])
 (.cond (.t 100) (.seq (.reg [Qb 2 false] [2])
 .ret)
 .skip)))
 (.reg [Qm 88 6,
 Qp 89 88 1,
 Qm 6 89] [1,3,4,5,6])))
def cP:C:=(.seq (.seq (.reg [Qm 54 5,
 Qd 55 4 2,
 Ql 56 55,
 Qo 57 (.len (.t 56)),
 Qo 58 (.bin .lss (.t 54) (.t 57))] [1,3,4,5,58])
 (.cond (.t 58) .skip
 (.exit 2)))
 (.seq (.block 3 (.seq (.seq (.reg [Qd 61 4 2,
 Ql 62 61,
 Qm 63 5,
 Qo 64 (.ix (.t 62) (.t 63) 2),
 Qd 65 64 0,
 Qo 66 (.ld (.t 65) none),
 Qo 67 (.call 54 [(.t 66),(.c (.d (.int .i64 2)))]),
 Qo 68 (.un .not (.t 67)),
 Qm 69 68,
 ⟨some 70,.fld (.t 4) 2,some (69,false)⟩,
 ⟨some 71,.ldl (.t 70) none,some (69,false)⟩,
 ⟨some 72,.mv (.t 5),some (69,false)⟩,
 ⟨some 73,.ix (.t 71) (.t 72) 2,some (69,false)⟩,
 ⟨some 74,.fld (.t 73) 1,some (69,false)⟩,
 ⟨some 75,.ld (.t 74) none,some (69,false)⟩,
 ⟨some 76,.len (.t 75),some (69,false)⟩,
 ⟨some 77,.bin .gtr (.t 76) (.c (.d (.int .i64 6))),some (69,false)⟩,
 Qr 78 69 77] [1,3,4,5,78])
 (.cond (.t 78) (.seq (.reg [Qb 2 false] [2])
 .ret)
 .skip))
 (.seq (.reg [Qi 6 0] [1,3,4,5,6])
 (.block 4 (.loop cO)))))
 (.reg [Qm 59 5,
 Qp 60 59 1,
 Qm 5 60] [1,3,4,5])))
def cQ:C:=(.seq (.seq (.reg [Qm 20 3,
 Qd 21 1 0,
 Ql 22 21,
 Qo 23 (.len (.t 22)),
 Qo 24 (.bin .lss (.t 20) (.t 23))] [1,3,24])
 (.cond (.t 24) .skip
 (.exit 0)))
 (.seq (.block 1 (.seq (.reg [Qd 27 1 0,
 Ql 28 27,
 Qm 29 3,
 Qo 30 (.ix (.t 28) (.t 29) 3),
 Qo 31 (.ld (.t 30) (some 3)),
 Qo 4 (.al [(.d (.str [])),.AO,.AO] false),
 Qz 4 31 3] [1,3,4])
 (.seq (.seq (.reg [Qd 32 4 0,
 Ql 33 32,
 Qo 34 (.call 54 [(.t 33),(.c (.d (.int .i64 2)))]),
 Qo 35 (.un .not (.t 34)),
 Qm 36 35,
 ⟨some 37,.fld (.t 4) 1,some (36,false)⟩,
 ⟨some 38,.ldl (.t 37) none,some (36,false)⟩,
 ⟨some 39,.call 55 [(.t 38),(.c (.d (.bool true)))],some (36,false)⟩,
 ⟨some 40,.un .not (.t 39),some (36,false)⟩,
 Qr 41 36 40,
 Qm 42 41,
 ⟨some 43,.fld (.t 4) 2,some (42,false)⟩,
 ⟨some 44,.ldl (.t 43) none,some (42,false)⟩,
 ⟨some 45,.len (.t 44),some (42,false)⟩,
 ⟨some 46,.bin .lss (.t 45) (.c (.d (.int .i64 1))),some (42,false)⟩,
 Qr 47 42 46,
 Qm 48 47,
 ⟨some 49,.fld (.t 4) 2,some (48,false)⟩,
 ⟨some 50,.ldl (.t 49) none,some (48,false)⟩,
 ⟨some 51,.len (.t 50),some (48,false)⟩,
 ⟨some 52,.bin .gtr (.t 51) (.c (.d (.int .i64 8))),some (48,false)⟩,
 Qr 53 48 52] [1,3,4,53])
 (.cond (.t 53) (.seq (.reg [Qb 2 false] [2])
 .ret)
 .skip))
 (.seq (.reg [Qi 5 0] [1,3,4,5])
 (.block 2 (.loop cP))))))
 (.reg [Qm 25 3,
 Qp 26 25 1,
 Qm 3 26] [1,3])))
def UY:C:=(.seq (.seq (.reg [Qm 101 8,
 Qd 102 1 1,
 Ql 103 102,
 Qo 104 (.len (.t 103)),
 Qo 105 (.bin .lss (.t 101) (.t 104))] [1,7,8,105])
 (.cond (.t 105) .skip
 (.exit 6)))
 (.seq (.block 7 (.seq (.reg [Qd 108 1 1,
 Ql 109 108,
 Qm 110 8,
 Qo 111 (.ix (.t 109) (.t 110) 8),
 Qo 112 (.ld (.t 111) (some 8)),
 Qo 9 (.al [(.d (.str [])),.AO,(.d (.int .i64 0)),(.d (.str [])),(.d (.int .i64 0)),.AO,.AO,.AO] false),
 Qz 9 112 8] [1,7,8,9])
 (.seq (.reg [Qd 113 9 0,
 Ql 114 113,
 Qo 115 (.call 54 [(.t 114),(.c (.d (.int .i64 1)))]),
 Qo 116 (.un .not (.t 115)),
 Qm 117 116,
 ⟨some 118,.fld (.t 9) 1,some (117,false)⟩,
 ⟨some 119,.ldl (.t 118) none,some (117,false)⟩,
 ⟨some 120,.call 55 [(.t 119),(.c (.d (.bool true)))],some (117,false)⟩,
 ⟨some 121,.un .not (.t 120),some (117,false)⟩,
 Qr 122 117 121,
 Qm 123 122,
 ⟨some 124,.fld (.t 9) 2,some (123,false)⟩,
 ⟨some 125,.ldl (.t 124) (some 6),some (123,false)⟩,
 ⟨some 126,.call 57 [(.t 125),(.c (.d (.int .i64 40))),(.t 7)],some (123,false)⟩,
 ⟨some 127,.un .not (.t 126),some (123,false)⟩,
 Qr 128 123 127] [1,7,8,128])
 (.cond (.t 128) (.seq (.reg [Qb 2 false] [2])
 .ret)
 .skip))))
 (.reg [Qm 106 8,
 Qp 107 106 1,
 Qm 8 107] [1,7,8])))
def ZZ:C:=(.seq (.reg [Qo 1 (.box (.t 0) false),
 Qb 2 false] [1])
 (.seq (.seq (.reg [Qd 10 1 0,
 Ql 11 10,
 Qo 12 (.len (.t 11)),
 Qo 13 (.bin .gtr (.t 12) (.c (.d (.int .i64 12)))),
 Qm 14 13,
 ⟨some 15,.fld (.t 1) 1,some (14,false)⟩,
 ⟨some 16,.ldl (.t 15) none,some (14,false)⟩,
 ⟨some 17,.len (.t 16),some (14,false)⟩,
 ⟨some 18,.bin .gtr (.t 17) (.c (.d (.int .i64 24))),some (14,false)⟩,
 Qr 19 14 18] [1,19])
 (.cond (.t 19) (.seq (.reg [Qb 2 false] [2])
 .ret)
 .skip))
 (.seq (.seq (.reg [Qi 3 0] [1,3])
 (.block 0 (.loop cQ)))
 (.seq (.reg [Qo 7 (.ex (.alt 3 [(.d (.int .i64 0))]) []),
 ⟨none,.st (.t 7) (.c (.d (.int .i64 600))) 1,none⟩] [1,7])
 (.seq (.seq (.reg [Qi 8 0] [1,7,8])
 (.block 6 (.loop UY)))
 (.seq (.reg [Qb 2 true] [2])
 .ret))))))
noncomputable def Kq:Cx:=⟨Tryz.prog,20,Tryz.f20,129,[7,300011,300016,300022,300028,300033,300038,300044,300050,300056,300062,300071,300081,300091,300103,300109,300114,300119,300125],[],[.t 2]⟩
theorem DQ:Good Kq:=⟨Tryz.func20,by kernel_rfl⟩
theorem j5:Kq.rs=[.t 2]:=rfl
theorem lZ (hl:args.length≤129) (h:Run Kq K [.code ZZ] (Ak args) E σ):AP Tryz.prog 20 args σ K:=
 AT (cx:=Kq) (code:=Tryz.f20.body.getD .skip) DQ (by kernel_rfl) Tryz.ntmps20 hl (AW Kq _ (Aw ZZ) _ [] (by kernel_rfl)) h
def V9:C:=(.seq (.reg [Qo 22 (.bin .lss (.t 21) (.t 20))] [1,19,20,21,22])
 (.seq (.cond (.t 22) .skip
 (.exit 0))
 (.seq (.block 1 (.seq (.reg [Qo 23 (.ix (.t 19) (.t 21) 3),
 Qo 24 (.ld (.t 23) (some 3)),
 Qo 4 (.al [(.d (.str [])),.AO,.AO] false),
 Qz 4 24 3] [1,4,19,20,21])
 (.seq (.reg [Qo 25 (.ldl (.t 4) (some 3)),
 Qc 26 50 25,
 Qo 27 (.un .not (.t 26))] [1,19,20,21,27])
 (.cond (.t 27) (.seq (.reg [Qb 2 false] [2])
 .ret)
 .skip))))
 (.reg [Qp 28 21 1,
 Qm 21 28] [1,19,20,21]))))
def Va:C:=(.seq (.reg [Qo 35 (.bin .lss (.t 34) (.t 33))] [5,32,33,34,35])
 (.seq (.cond (.t 35) .skip
 (.exit 2))
 (.seq (.block 3 (.seq (.reg [Qo 36 (.ix (.t 32) (.t 34) 8),
 Qo 37 (.ld (.t 36) (some 8)),
 Qo 7 (.al [(.d (.str [])),.AO,(.d (.int .i64 0)),(.d (.str [])),(.d (.int .i64 0)),.AO,.AO,.AO] false),
 Qz 7 37 8] [5,7,32,33,34])
 (.seq (.reg [Qd 38 7 0,
 Ql 39 38,
 Qc 40 51 39,
 Qo 41 (.un .not (.t 40)),
 Qm 42 41,
 ⟨some 43,.fld (.t 7) 1,some (42,false)⟩,
 ⟨some 44,.ldl (.t 43) none,some (42,false)⟩,
 ⟨some 45,.len (.t 44),some (42,false)⟩,
 ⟨some 46,.bin .gtr (.t 45) (.c (.d (.int .i64 6))),some (42,false)⟩,
 Qr 47 42 46,
 Qm 48 47,
 ⟨some 49,.fld (.t 7) 1,some (48,false)⟩,
 ⟨some 50,.ldl (.t 49) none,some (48,false)⟩,
 ⟨some 51,.call 52 [(.t 50),(.c (.fn 51 [] []))],some (48,false)⟩,
 ⟨some 52,.un .not (.t 51),some (48,false)⟩,
 Qr 53 48 52,
 Qm 54 53,
 ⟨some 55,.mv (.t 5),some (54,false)⟩,
 ⟨some 56,.fld (.t 7) 2,some (54,false)⟩,
 ⟨some 57,.ldl (.t 56) (some 6),some (54,false)⟩,
 ⟨some 58,.call 53 [(.t 55),(.t 57),(.c (.d (.int .i64 1)))],some (54,false)⟩,
 ⟨some 59,.un .not (.t 58),some (54,false)⟩,
 Qr 60 54 59] [5,32,33,34,60])
 (.cond (.t 60) (.seq (.reg [Qb 2 false] [2])
 .ret)
 .skip))))
 (.reg [Qp 61 34 1,
 Qm 34 61] [5,32,33,34]))))
def S1:C:=(.seq (.reg [Qo 1 (.box (.t 0) false),
 Qb 2 false] [1])
 (.seq (.seq (.reg [Qd 8 1 0,
 Ql 9 8,
 Qo 10 (.len (.t 9)),
 Qo 11 (.bin .gtr (.t 10) (.c (.d (.int .i64 12)))),
 Qm 12 11,
 ⟨some 13,.fld (.t 1) 1,some (12,false)⟩,
 ⟨some 14,.ldl (.t 13) none,some (12,false)⟩,
 ⟨some 15,.len (.t 14),some (12,false)⟩,
 ⟨some 16,.bin .gtr (.t 15) (.c (.d (.int .i64 24))),some (12,false)⟩,
 Qr 17 12 16] [1,17])
 (.cond (.t 17) (.seq (.reg [Qb 2 false] [2])
 .ret)
 .skip))
 (.seq (.seq (.reg [Qd 18 1 0,
 Ql 19 18,
 Qo 20 (.len (.t 19)),
 Qi 21 0] [1,19,20,21])
 (.block 0 (.loop V9)))
 (.seq (.reg [Qo 29 (.bld [(.d (.int .i64 0))] []),
 Qo 30 (.box (.t 29) true),
 Qm 5 30] [1,5])
 (.seq (.seq (.reg [Qd 31 1 1,
 Ql 32 31,
 Qo 33 (.len (.t 32)),
 Qi 34 0] [5,32,33,34])
 (.block 2 (.loop Va)))
 (.seq (.reg [Qb 2 true] [2])
 .ret))))))
noncomputable def Hf:Cx:=⟨Tryz.prog,19,Tryz.f19,62,[30,300009,300014,300019,300025,300032,300039,300044,300050,300057],[],[.t 2]⟩
theorem DR:Good Hf:=⟨Tryz.func19,by kernel_rfl⟩
theorem Y9:Hf.rs=[.t 2]:=rfl
theorem Zm (hl:args.length≤62) (h:Run Hf K [.code S1] (Ak args) E σ):AP Tryz.prog 19 args σ K:=
 AT (cx:=Hf) (code:=Tryz.f19.body.getD .skip) DR (by kernel_rfl) Tryz.ntmps19 hl (AW Hf _ (Aw S1) _ [] (by kernel_rfl)) h
def Xi:C:=(.seq (.reg [Qb 4 false] [0,1])
 (.seq (.reg [Qm 9 0,
 Qc 10 29 9,
 Qm 8 10,
 Qo 11 (.ext (.t 8) 0),
 Qo 12 (.ext (.t 8) 1),
 Qo 13 (.ext (.t 8) 2),
 Qm 5 11,
 Qm 6 12,
 Qm 7 13] [0,1,5,7])
 (.seq (.reg [Qm 14 7,
 Qe 15 14 0,
 Qm 16 15,
 ⟨some 17,.mv (.t 5),some (16,true)⟩,
 ⟨some 18,.len (.t 17),some (16,true)⟩,
 ⟨some 19,.bin .eql (.t 18) (.c (.d (.int .i64 2))),some (16,true)⟩,
 Qa 20 16 19,
 Qm 21 20,
 ⟨some 22,.mv (.t 5),some (21,true)⟩,
 ⟨some 23,.ix (.t 22) (.c (.d (.int .i64 0))) 3,some (21,true)⟩,
 ⟨some 24,.fld (.t 23) 0,some (21,true)⟩,
 ⟨some 25,.ld (.t 24) none,some (21,true)⟩,
 ⟨some 26,.mv (.t 1),some (21,true)⟩,
 ⟨some 27,.bin .eql (.t 25) (.t 26),some (21,true)⟩,
 Qa 28 21 27,
 Qm 29 28,
 ⟨some 30,.mv (.t 5),some (29,true)⟩,
 ⟨some 31,.ix (.t 30) (.c (.d (.int .i64 0))) 3,some (29,true)⟩,
 ⟨some 32,.fld (.t 31) 1,some (29,true)⟩,
 ⟨some 33,.ld (.t 32) none,some (29,true)⟩,
 ⟨some 34,.mv (.t 0),some (29,true)⟩,
 ⟨some 35,.bin .eql (.t 33) (.t 34),some (29,true)⟩,
 Qa 36 29 35,
 Qm 4 36] [4])
 .ret)))
noncomputable def Lt:Cx:=⟨Tryz.prog,54,Tryz.f54,37,[],[],[.t 4]⟩
theorem LW:Good Lt:=⟨Tryz.func54,by kernel_rfl⟩
theorem gQ:Lt.rs=[.t 4]:=rfl
theorem iQ (hl:args.length≤37) (h:Run Lt K [.code Xi] (Ak args) E σ):AP Tryz.prog 54 args σ K:=
 AT (cx:=Lt) (code:=Tryz.f54.body.getD .skip) LW (by kernel_rfl) Tryz.ntmps54 hl (AW Lt _ (Aw Xi) _ [] (by kernel_rfl)) h
def cR:C:=(.seq (.seq (.reg [Qm 9 5,
 Qm 10 0,
 Qo 11 (.len (.t 10)),
 Qo 12 (.bin .lss (.t 9) (.t 11))] [0,1,5,12])
 (.cond (.t 12) .skip
 (.exit 0)))
 (.seq (.block 1 (.seq (.reg [Qm 15 0,
 Qm 16 5,
 Qo 17 (.ix (.t 15) (.t 16) 1),
 Qo 18 (.ld (.t 17) none),
 Qo 19 (.call 54 [(.t 18),(.c (.d (.int .i64 1)))]),
 Qm 20 19,
 ⟨some 21,.mv (.t 0),some (20,false)⟩,
 ⟨some 22,.mv (.t 5),some (20,false)⟩,
 ⟨some 23,.ix (.t 21) (.t 22) 1,some (20,false)⟩,
 ⟨some 24,.ld (.t 23) none,some (20,false)⟩,
 ⟨some 25,.bin .eql (.t 24) (.c (.d (.str []))),some (20,false)⟩,
 ⟨some 26,.mv (.t 25),some (20,false)⟩,
 ⟨some 27,.mv (.t 1),some (26,true)⟩,
 ⟨some 28,.un .not (.t 27),some (26,true)⟩,
 ⟨some 29,.pick (.t 26) (.t 28) (.c (.d (.bool false))),some (20,false)⟩,
 Qr 30 20 29,
 Qo 31 (.un .not (.t 30))] [0,1,5,31])
 (.cond (.t 31) (.seq (.reg [Qb 4 false] [4])
 .ret)
 .skip)))
 (.reg [Qm 13 5,
 Qp 14 13 1,
 Qm 5 14] [0,1,5])))
def Z0:C:=(.seq (.reg [Qb 4 false] [0,1])
 (.seq (.seq (.reg [Qm 6 0,
 Qo 7 (.len (.t 6)),
 Qo 8 (.bin .gtr (.t 7) (.c (.d (.int .i64 6))))] [0,1,8])
 (.cond (.t 8) (.seq (.reg [Qb 4 false] [4])
 .ret)
 .skip))
 (.seq (.seq (.reg [Qi 5 0] [0,1,5])
 (.block 0 (.loop cR)))
 (.seq (.reg [Qb 4 true] [4])
 .ret))))
noncomputable def Nl:Cx:=⟨Tryz.prog,55,Tryz.f55,32,[],[],[.t 4]⟩
theorem NQ:Good Nl:=⟨Tryz.func55,by kernel_rfl⟩
theorem j6:Nl.rs=[.t 4]:=rfl
theorem mA (hl:args.length≤32) (h:Run Nl K [.code Z0] (Ak args) E σ):AP Tryz.prog 55 args σ K:=
 AT (cx:=Nl) (code:=Tryz.f55.body.getD .skip) NQ (by kernel_rfl) Tryz.ntmps55 hl (AW Nl _ (Aw Z0) _ [] (by kernel_rfl)) h
def OL:C:=(.seq (.seq (.reg [Qm 80 6,
 Qm 81 5,
 Qo 82 (.bin .lss (.t 80) (.t 81))] [1,2,5,6,82])
 (.cond (.t 82) .skip
 (.exit 1)))
 (.seq (.block 2 (.seq (.reg [Qd 85 2 2,
 Ql 86 85,
 Qm 87 6,
 Qo 88 (.ix (.t 86) (.t 87) 3),
 Qo 89 (.ld (.t 88) (some 3)),
 Qm 90 1,
 Qo 91 (.bin .sub (.t 90) (.c (.d (.int .i64 1)))),
 Qk 92 56 89 91,
 Qo 93 (.un .not (.t 92))] [1,2,5,6,93])
 (.cond (.t 93) (.seq (.reg [Qb 4 false] [4])
 .ret)
 .skip)))
 (.reg [Qm 83 6,
 Qp 84 83 1,
 Qm 6 84] [1,2,5,6])))
def S0:C:=(.seq (.reg [Qo 2 (.box (.t 0) false),
 Qb 4 false] [1,2])
 (.seq (.seq (.reg [Qm 7 1,
 Qe 8 7 0] [1,2,8])
 (.cond (.t 8) (.seq (.reg [Qb 4 false] [4])
 .ret)
 .skip))
 (.seq (.reg [Qd 9 2 2,
 Ql 10 9,
 Qo 11 (.len (.t 10)),
 Qm 5 11] [1,2,5])
 (.seq (.seq (.reg [Qd 12 2 0,
 Ql 13 12] [1,2,5,13])
 (.block 0 (.seq (.seq (.reg [Qe 15 13 1,
 Qm 14 15] [1,2,5,13,14])
 (.cond (.t 14) .skip
 (.seq (.reg [Qe 16 13 2,
 Qm 14 16] [1,2,5,13,14])
 (.cond (.t 14) .skip
 (.reg [Qe 17 13 3,
 Qm 14 17] [1,2,5,13,14])))))
 (.cond (.t 14) (.seq (.reg [Qd 18 2 1,
 Ql 19 18,
 Qo 20 (.bin .eql (.t 19) (.c (.d (.str [])))),
 Qm 21 20,
 ⟨some 22,.mv (.t 5),some (21,true)⟩,
 ⟨some 23,.bin .eql (.t 22) (.c (.d (.int .i64 0))),some (21,true)⟩,
 Qa 24 21 23,
 Qm 4 24] [4])
 .ret)
 (.seq (.reg [Qe 26 13 4,
 Qm 25 26] [1,2,5,13,25])
 (.cond (.t 25) (.seq (.reg [Qd 27 2 1,
 Ql 28 27,
 Qo 29 (.call 54 [(.t 28),(.c (.d (.int .i64 1)))]),
 Qm 30 29,
 ⟨some 31,.mv (.t 5),some (30,true)⟩,
 ⟨some 32,.bin .eql (.t 31) (.c (.d (.int .i64 0))),some (30,true)⟩,
 Qa 33 30 32,
 Qm 4 33] [4])
 .ret)
 (.seq (.reg [Qe 35 13 5,
 Qm 34 35] [1,2,5,13,34])
 (.cond (.t 34) (.seq (.reg [Qd 36 2 1,
 Ql 37 36,
 Qo 38 (.call 54 [(.t 37),(.c (.d (.int .i64 2)))]),
 Qo 39 (.un .not (.t 38)),
 Qm 40 39,
 ⟨some 41,.mv (.t 5),some (40,false)⟩,
 ⟨some 42,.bin .gtr (.t 41) (.c (.d (.int .i64 6))),some (40,false)⟩,
 Qr 43 40 42] [1,2,5,43])
 (.cond (.t 43) (.seq (.reg [Qb 4 false] [4])
 .ret)
 .skip))
 (.seq (.reg [Qe 45 13 6,
 Qm 44 45] [1,2,5,13,44])
 (.cond (.t 44) (.seq (.reg [Qd 46 2 1,
 Ql 47 46,
 Qo 48 (.bin .neq (.t 47) (.c (.d (.str [])))),
 Qm 49 48,
 ⟨some 50,.mv (.t 5),some (49,false)⟩,
 ⟨some 51,.bin .lss (.t 50) (.c (.d (.int .i64 2))),some (49,false)⟩,
 Qr 52 49 51,
 Qm 53 52,
 ⟨some 54,.mv (.t 5),some (53,false)⟩,
 ⟨some 55,.bin .gtr (.t 54) (.c (.d (.int .i64 6))),some (53,false)⟩,
 Qr 56 53 55] [1,2,5,56])
 (.cond (.t 56) (.seq (.reg [Qb 4 false] [4])
 .ret)
 .skip))
 (.seq (.seq (.reg [Qe 58 13 7,
 Qm 57 58] [1,2,5,13,57])
 (.cond (.t 57) .skip
 (.reg [Qe 59 13 8,
 Qm 57 59] [1,2,5,13,57])))
 (.cond (.t 57) (.seq (.reg [Qd 60 2 1,
 Ql 61 60,
 Qo 62 (.bin .neq (.t 61) (.c (.d (.str [])))),
 Qm 63 62,
 ⟨some 64,.mv (.t 5),some (63,false)⟩,
 ⟨some 65,.bin .neq (.t 64) (.c (.d (.int .i64 1))),some (63,false)⟩,
 Qr 66 63 65] [1,2,5,66])
 (.cond (.t 66) (.seq (.reg [Qb 4 false] [4])
 .ret)
 .skip))
 (.seq (.reg [Qe 68 13 9,
 Qm 67 68] [1,2,5,67])
 (.cond (.t 67) (.seq (.reg [Qd 69 2 1,
 Ql 70 69,
 Qo 71 (.bin .neq (.t 70) (.c (.d (.str [])))),
 Qm 72 71,
 ⟨some 73,.mv (.t 5),some (72,false)⟩,
 ⟨some 74,.bin .lss (.t 73) (.c (.d (.int .i64 1))),some (72,false)⟩,
 Qr 75 72 74,
 Qm 76 75,
 ⟨some 77,.mv (.t 5),some (76,false)⟩,
 ⟨some 78,.bin .gtr (.t 77) (.c (.d (.int .i64 7))),some (76,false)⟩,
 Qr 79 76 78] [1,2,5,79])
 (.cond (.t 79) (.seq (.reg [Qb 4 false] [4])
 .ret)
 .skip))
 (.seq (.reg [Qb 4 false] [4])
 .ret)))))))))))))))
 (.seq (.seq (.reg [Qi 6 0] [1,2,5,6])
 (.block 1 (.loop OL)))
 (.seq (.reg [Qb 4 true] [4])
 .ret))))))
noncomputable def GF:Cx:=⟨Tryz.prog,56,Tryz.f56,94,[300010,300013,300019,300028,300037,300047,300061,300070,300086],[],[.t 4]⟩
theorem HT:Good GF:=⟨Tryz.func56,by kernel_rfl⟩
theorem Y7:GF.rs=[.t 4]:=rfl
theorem Se (hl:args.length≤94) (h:Run GF K [.code S0] (Ak args) E σ):AP Tryz.prog 56 args σ K:=
 AT (cx:=GF) (code:=Tryz.f56.body.getD .skip) HT (by kernel_rfl) Tryz.ntmps56 hl (AW GF _ (Aw S0) _ [] (by kernel_rfl)) h
def OJ:C:=(.seq (.seq (.reg [Qm 202 13,
 Qd 203 3 4,
 Ql 204 203,
 Qo 205 (.len (.t 204)),
 Qo 206 (.bin .lss (.t 202) (.t 205))] [1,2,3,13,206])
 (.cond (.t 206) .skip
 (.exit 1)))
 (.seq (.block 2 (.seq (.reg [Qd 209 3 4,
 Ql 210 209,
 Qm 211 13,
 Qo 212 (.ix (.t 210) (.t 211) 6),
 Qo 213 (.ld (.t 212) (some 6)),
 Qm 214 1,
 Qo 215 (.bin .sub (.t 214) (.c (.d (.int .i64 1)))),
 Qm 216 2,
 Qo 217 (.call 57 [(.t 213),(.t 215),(.t 216)]),
 Qo 218 (.un .not (.t 217))] [1,2,3,13,218])
 (.cond (.t 218) (.seq (.reg [Qb 6 false] [6])
 .ret)
 .skip)))
 (.reg [Qm 207 13,
 Qp 208 207 1,
 Qm 13 208] [1,2,3,13])))
def OK:C:=(.seq (.seq (.reg [Qm 219 14,
 Qd 220 3 5,
 Ql 221 220,
 Qo 222 (.len (.t 221)),
 Qo 223 (.bin .lss (.t 219) (.t 222))] [1,2,3,14,223])
 (.cond (.t 223) .skip
 (.exit 3)))
 (.seq (.block 4 (.seq (.reg [Qd 226 3 5,
 Ql 227 226,
 Qm 228 14,
 Qo 229 (.ix (.t 227) (.t 228) 8),
 Qo 230 (.ld (.t 229) (some 8)),
 Qo 15 (.al [(.d (.str [])),.AO,(.d (.int .i64 0)),(.d (.str [])),(.d (.int .i64 0)),.AO,.AO,.AO] false),
 Qz 15 230 8] [1,2,3,14,15])
 (.seq (.reg [Qd 231 15 0,
 Ql 232 231,
 Qo 233 (.call 54 [(.t 232),(.c (.d (.int .i64 2)))]),
 Qo 234 (.un .not (.t 233)),
 Qm 235 234,
 ⟨some 236,.fld (.t 15) 1,some (235,false)⟩,
 ⟨some 237,.ldl (.t 236) none,some (235,false)⟩,
 ⟨some 238,.call 55 [(.t 237),(.c (.d (.bool false)))],some (235,false)⟩,
 ⟨some 239,.un .not (.t 238),some (235,false)⟩,
 Qr 240 235 239,
 Qm 241 240,
 ⟨some 242,.fld (.t 15) 2,some (241,false)⟩,
 ⟨some 243,.ldl (.t 242) (some 6),some (241,false)⟩,
 ⟨some 244,.mv (.t 1),some (241,false)⟩,
 ⟨some 245,.bin .sub (.t 244) (.c (.d (.int .i64 1))),some (241,false)⟩,
 ⟨some 246,.mv (.t 2),some (241,false)⟩,
 ⟨some 247,.call 57 [(.t 243),(.t 245),(.t 246)],some (241,false)⟩,
 ⟨some 248,.un .not (.t 247),some (241,false)⟩,
 Qr 249 241 248] [1,2,3,14,249])
 (.cond (.t 249) (.seq (.reg [Qb 6 false] [6])
 .ret)
 .skip))))
 (.reg [Qm 224 14,
 Qp 225 224 1,
 Qm 14 225] [1,2,3,14])))
def Z2:C:=(.seq (.reg [Qo 3 (.box (.t 0) false),
 Qb 6 false] [1,2,3])
 (.seq (.seq (.reg [Qm 16 1,
 Qe 17 16 0,
 Qm 18 17,
 ⟨some 19,.mv (.t 2),some (18,false)⟩,
 ⟨some 20,.nck (.t 19),some (18,false)⟩,
 ⟨some 21,.ld (.t 20) none,some (18,false)⟩,
 ⟨some 22,.bin .eql (.t 21) (.c (.d (.int .i64 0))),some (18,false)⟩,
 Qr 23 18 22] [1,2,3,23])
 (.cond (.t 23) (.seq (.reg [Qb 6 false] [6])
 .ret)
 .skip))
 (.seq (.reg [Qm 24 2,
 Qo 25 (.nck (.t 24)),
 Qo 26 (.ld (.t 25) none),
 Qo 27 (.bin .sub (.t 26) (.c (.d (.int .i64 1)))),
 Qo 28 (.nck (.t 24)),
 Qz 28 27 1] [1,2,3])
 (.seq (.reg [Qb 7 false,
 Qb 8 false,
 Qb 9 false,
 Qb 10 false] [1,2,3,7,8,9,10])
 (.seq (.reg [Qi 11 0,
 Qi 12 0] [1,2,3,7,8,9,10,11,12])
 (.seq (.seq (.reg [Qd 29 3 0,
 Ql 30 29] [1,2,3,7,8,9,10,11,12,30])
 (.block 0 (.seq (.reg [Qe 32 30 1,
 Qm 31 32] [1,2,3,7,8,9,10,11,12,30,31])
 (.cond (.t 31) .skip
 (.seq (.reg [Qe 34 30 2,
 Qm 33 34] [1,2,3,7,8,9,10,11,12,30,33])
 (.cond (.t 33) (.reg [Qd 35 3 2,
 Ql 36 35,
 Qe 37 36 0,
 Qm 38 37,
 ⟨some 39,.fld (.t 3) 2,some (38,false)⟩,
 ⟨some 40,.ldl (.t 39) none,some (38,false)⟩,
 ⟨some 41,.bin .eql (.t 40) (.c (.d (.int .i64 1))),some (38,false)⟩,
 Qr 42 38 41,
 Qm 8 42] [1,2,3,7,8,9,10,11,12])
 (.seq (.reg [Qe 44 30 3,
 Qm 43 44] [1,2,3,7,8,9,10,11,12,30,43])
 (.cond (.t 43) (.reg [Qd 45 3 2,
 Ql 46 45,
 Qo 47 (.bin .geq (.t 46) (.c (.d (.int .i64 (-1000000))))),
 Qm 48 47,
 ⟨some 49,.fld (.t 3) 2,some (48,true)⟩,
 ⟨some 50,.ldl (.t 49) none,some (48,true)⟩,
 ⟨some 51,.bin .leq (.t 50) (.c (.d (.int .i64 1000000))),some (48,true)⟩,
 Qa 52 48 51,
 Qm 8 52] [1,2,3,7,8,9,10,11,12])
 (.seq (.reg [Qe 54 30 4,
 Qm 53 54] [1,2,3,7,8,9,10,11,12,30,53])
 (.cond (.t 53) (.seq (.reg [Qd 55 3 1,
 Ql 56 55,
 Qo 57 (.call 54 [(.t 56),(.c (.d (.int .i64 1)))]),
 Qm 7 57] [1,2,3,7,8,9,10,11,12])
 (.seq (.reg [Qm 58 7,
 Qo 59 (.un .not (.t 58))] [1,2,3,7,8,9,10,11,12,59])
 (.cond (.t 59) (.seq (.reg [Qb 6 false] [6])
 .ret)
 .skip)))
 (.seq (.reg [Qe 61 30 5,
 Qm 60 61] [1,2,3,7,8,9,10,11,12,30,60])
 (.cond (.t 60) (.reg [Qi 11 2,
 Qi 12 6] [1,2,3,7,8,9,10,11,12])
 (.seq (.reg [Qe 63 30 6,
 Qm 62 63] [1,2,3,7,8,9,10,11,12,30,62])
 (.cond (.t 62) (.seq (.reg [Qd 64 3 1,
 Ql 65 64,
 Qo 66 (.call 54 [(.t 65),(.c (.d (.int .i64 2)))]),
 Qm 7 66] [1,2,3,7,8,9,10,11])
 (.seq (.seq (.reg [Qm 67 7,
 Qo 68 (.un .not (.t 67))] [1,2,3,7,8,9,10,11,68])
 (.cond (.t 68) (.seq (.reg [Qb 6 false] [6])
 .ret)
 .skip))
 (.reg [Qi 12 6] [1,2,3,7,8,9,10,11,12])))
 (.seq (.seq (.reg [Qe 70 30 7,
 Qm 69 70] [1,2,3,7,8,9,10,11,12,30,69])
 (.cond (.t 69) .skip
 (.reg [Qe 71 30 17,
 Qm 69 71] [1,2,3,7,8,9,10,11,12,30,69])))
 (.cond (.t 69) (.seq (.reg [Qd 72 3 1,
 Ql 73 72,
 Qo 74 (.bin .eql (.t 73) (.c (.d (.str [])))),
 Qm 75 74,
 ⟨some 76,.fld (.t 3) 1,some (75,false)⟩,
 ⟨some 77,.ldl (.t 76) none,some (75,false)⟩,
 ⟨some 78,.call 54 [(.t 77),(.c (.d (.int .i64 1)))],some (75,false)⟩,
 Qr 79 75 78,
 Qm 7 79] [1,2,3,7,8,9,10])
 (.reg [Qi 11 2,
 Qi 12 2] [1,2,3,7,8,9,10,11,12]))
 (.seq (.reg [Qe 81 30 8,
 Qm 80 81] [1,2,3,7,8,9,10,11,12,30,80])
 (.cond (.t 80) (.seq (.reg [Qd 82 3 3,
 Ql 83 82,
 Qo 84 (.len (.t 83)),
 Qo 85 (.bin .geq (.t 84) (.c (.d (.int .i64 2)))),
 Qm 86 85,
 ⟨some 87,.fld (.t 3) 3,some (86,true)⟩,
 ⟨some 88,.ldl (.t 87) none,some (86,true)⟩,
 ⟨some 89,.call 55 [(.t 88),(.c (.d (.bool false)))],some (86,true)⟩,
 Qa 90 86 89,
 Qm 9 90] [1,2,3,7,8,9,10])
 (.seq (.seq (.reg [Qm 91 9,
 Qo 92 (.un .not (.t 91))] [1,2,3,7,8,9,10,92])
 (.cond (.t 92) (.seq (.reg [Qb 6 false] [6])
 .ret)
 .skip))
 (.reg [Qi 11 2,
 Qi 12 2] [1,2,3,7,8,9,10,11,12])))
 (.seq (.reg [Qe 94 30 9,
 Qm 93 94] [1,2,3,7,8,9,10,11,12,30,93])
 (.cond (.t 93) (.reg [Qi 11 3,
 Qi 12 3] [1,2,3,7,8,9,10,11,12])
 (.seq (.reg [Qe 96 30 10,
 Qm 95 96] [1,2,3,7,8,9,10,11,12,30,95])
 (.cond (.t 95) (.seq (.reg [Qd 97 3 5,
 Ql 98 97,
 Qo 99 (.len (.t 98)),
 Qo 100 (.bin .geq (.t 99) (.c (.d (.int .i64 1)))),
 Qm 10 100] [1,2,3,7,8,9,10])
 (.seq (.seq (.reg [Qm 101 10,
 Qo 102 (.un .not (.t 101))] [1,2,3,7,8,9,10,102])
 (.cond (.t 102) (.seq (.reg [Qb 6 false] [6])
 .ret)
 .skip))
 (.reg [Qi 11 1,
 Qi 12 1] [1,2,3,7,8,9,10,11,12])))
 (.seq (.reg [Qe 104 30 11,
 Qm 103 104] [1,2,3,7,8,9,10,11,12,30,103])
 (.cond (.t 103) (.seq (.reg [Qd 105 3 3,
 Ql 106 105,
 Qo 107 (.call 55 [(.t 106),(.c (.d (.bool true)))]),
 Qm 9 107] [1,2,3,7,8,9,10])
 (.reg [Qi 11 1,
 Qi 12 1] [1,2,3,7,8,9,10,11,12]))
 (.seq (.reg [Qe 109 30 12,
 Qm 108 109] [1,2,3,7,8,9,10,11,12,30,108])
 (.cond (.t 108) (.reg [Qi 11 1,
 Qi 12 7] [1,2,3,7,8,9,10,11,12])
 (.seq (.reg [Qe 111 30 13,
 Qm 110 111] [1,2,3,7,8,9,10,11,12,30,110])
 (.cond (.t 110) (.seq (.reg [Qd 112 3 2,
 Ql 113 112,
 Qo 114 (.bin .geq (.t 113) (.c (.d (.int .i64 1)))),
 Qm 115 114,
 ⟨some 116,.fld (.t 3) 2,some (115,true)⟩,
 ⟨some 117,.ldl (.t 116) none,some (115,true)⟩,
 ⟨some 118,.bin .leq (.t 117) (.c (.d (.int .i64 8))),some (115,true)⟩,
 Qa 119 115 118,
 Qm 8 119] [1,2,3,7,8,9,10])
 (.seq (.seq (.reg [Qm 120 8,
 Qo 121 (.un .not (.t 120))] [1,2,3,7,8,9,10,121])
 (.cond (.t 121) (.seq (.reg [Qb 6 false] [6])
 .ret)
 .skip))
 (.reg [Qi 11 2,
 Qi 12 2] [1,2,3,7,8,9,10,11,12])))
 (.seq (.reg [Qe 123 30 14,
 Qm 122 123] [1,2,3,7,8,9,10,11,12,30,122])
 (.cond (.t 122) (.seq (.reg [Qd 124 3 2,
 Ql 125 124,
 Qo 126 (.bin .geq (.t 125) (.c (.d (.int .i64 1)))),
 Qm 127 126,
 ⟨some 128,.fld (.t 3) 2,some (127,true)⟩,
 ⟨some 129,.ldl (.t 128) none,some (127,true)⟩,
 ⟨some 130,.bin .leq (.t 129) (.c (.d (.int .i64 7))),some (127,true)⟩,
 Qa 131 127 130,
 Qm 8 131] [1,2,3,7,8,9,10])
 (.seq (.seq (.reg [Qm 132 8,
 Qo 133 (.un .not (.t 132))] [1,2,3,7,8,9,10,133])
 (.cond (.t 133) (.seq (.reg [Qb 6 false] [6])
 .ret)
 .skip))
 (.reg [Qd 134 3 2,
 Ql 135 134,
 Qd 137 3 2,
 Ql 138 137,
 Qc 136 111 135,
 Qc 139 111 138,
 Qm 11 136,
 Qm 12 139] [1,2,3,7,8,9,10,11,12])))
 (.seq (.reg [Qe 141 30 15,
 Qm 140 141] [1,2,3,7,8,9,10,11,12,30,140])
 (.cond (.t 140) (.reg [Qd 142 3 2,
 Ql 143 142,
 Qo 144 (.bin .geq (.t 143) (.c (.d (.int .i64 (-1000))))),
 Qm 145 144,
 ⟨some 146,.fld (.t 3) 2,some (145,true)⟩,
 ⟨some 147,.ldl (.t 146) none,some (145,true)⟩,
 ⟨some 148,.bin .leq (.t 147) (.c (.d (.int .i64 1000))),some (145,true)⟩,
 Qa 149 145 148,
 Qm 8 149] [1,2,3,7,8,9,10,11,12])
 (.seq (.reg [Qe 151 30 16,
 Qm 150 151] [1,2,3,7,8,9,10,150])
 (.cond (.t 150) (.reg [Qi 11 1,
 Qi 12 1] [1,2,3,7,8,9,10,11,12])
 (.seq (.reg [Qb 6 false] [6])
 .ret)))))))))))))))))))))))))))))))))))
 (.seq (.seq (.reg [Qm 152 7,
 Qo 153 (.un .not (.t 152)),
 Qm 154 153,
 ⟨some 155,.fld (.t 3) 1,some (154,true)⟩,
 ⟨some 156,.ldl (.t 155) none,some (154,true)⟩,
 ⟨some 157,.bin .neq (.t 156) (.c (.d (.str []))),some (154,true)⟩,
 Qa 158 154 157,
 Qm 159 158,
 ⟨some 160,.mv (.t 8),some (159,false)⟩,
 ⟨some 161,.un .not (.t 160),some (159,false)⟩,
 ⟨some 162,.mv (.t 161),some (159,false)⟩,
 ⟨some 163,.fld (.t 3) 2,some (162,true)⟩,
 ⟨some 164,.ldl (.t 163) none,some (162,true)⟩,
 ⟨some 165,.bin .neq (.t 164) (.c (.d (.int .i64 0))),some (162,true)⟩,
 ⟨some 166,.pick (.t 162) (.t 165) (.c (.d (.bool false))),some (159,false)⟩,
 Qr 167 159 166,
 Qm 168 167,
 ⟨some 169,.mv (.t 9),some (168,false)⟩,
 ⟨some 170,.un .not (.t 169),some (168,false)⟩,
 ⟨some 171,.mv (.t 170),some (168,false)⟩,
 ⟨some 172,.fld (.t 3) 3,some (171,true)⟩,
 ⟨some 173,.ldl (.t 172) none,some (171,true)⟩,
 ⟨some 174,.len (.t 173),some (171,true)⟩,
 ⟨some 175,.bin .gtr (.t 174) (.c (.d (.int .i64 0))),some (171,true)⟩,
 ⟨some 176,.pick (.t 171) (.t 175) (.c (.d (.bool false))),some (168,false)⟩,
 Qr 177 168 176,
 Qm 178 177,
 ⟨some 179,.mv (.t 10),some (178,false)⟩,
 ⟨some 180,.un .not (.t 179),some (178,false)⟩,
 ⟨some 181,.mv (.t 180),some (178,false)⟩,
 ⟨some 182,.fld (.t 3) 5,some (181,true)⟩,
 ⟨some 183,.ldl (.t 182) none,some (181,true)⟩,
 ⟨some 184,.len (.t 183),some (181,true)⟩,
 ⟨some 185,.bin .gtr (.t 184) (.c (.d (.int .i64 0))),some (181,true)⟩,
 ⟨some 186,.pick (.t 181) (.t 185) (.c (.d (.bool false))),some (178,false)⟩,
 Qr 187 178 186,
 Qm 188 187,
 ⟨some 189,.fld (.t 3) 4,some (188,false)⟩,
 ⟨some 190,.ldl (.t 189) none,some (188,false)⟩,
 ⟨some 191,.len (.t 190),some (188,false)⟩,
 ⟨some 192,.mv (.t 11),some (188,false)⟩,
 ⟨some 193,.bin .lss (.t 191) (.t 192),some (188,false)⟩,
 Qr 194 188 193,
 Qm 195 194,
 ⟨some 196,.fld (.t 3) 4,some (195,false)⟩,
 ⟨some 197,.ldl (.t 196) none,some (195,false)⟩,
 ⟨some 198,.len (.t 197),some (195,false)⟩,
 ⟨some 199,.mv (.t 12),some (195,false)⟩,
 ⟨some 200,.bin .gtr (.t 198) (.t 199),some (195,false)⟩,
 Qr 201 195 200] [1,2,3,201])
 (.cond (.t 201) (.seq (.reg [Qb 6 false] [6])
 .ret)
 .skip))
 (.seq (.seq (.reg [Qi 13 0] [1,2,3,13])
 (.block 1 (.loop OJ)))
 (.seq (.seq (.reg [Qi 14 0] [1,2,3,14])
 (.block 3 (.loop OK)))
 (.seq (.reg [Qb 6 true] [6])
 .ret))))))))))
def bU:List (List Nat×PT):=[([1,2,3],.done),([1,2,3,23],.done),([6],.done),([1,2,3],.done),([1,2,3,7,8,9,10],.done),([1,2,3,7,8,9,10,11,12],.done),([1,2,3,7,8,9,10,11,12,30],.done),([1,2,3,7,8,9,10,11,12,30,31],.done),([1,2,3,7,8,9,10,11,12,30,33],.done),([1,2,3,7,8,9,10,11,12],.done),([1,2,3,7,8,9,10,11,12,30,43],.done),([1,2,3,7,8,9,10,11,12],.done),([1,2,3,7,8,9,10,11,12,30,53],.done),([1,2,3,7,8,9,10,11,12],.done),([1,2,3,7,8,9,10,11,12,59],.done),([6],.done),([1,2,3,7,8,9,10,11,12,30,60],.done),([1,2,3,7,8,9,10,11,12],.done),([1,2,3,7,8,9,10,11,12,30,62],.done),([1,2,3,7,8,9,10,11],.done),([1,2,3,7,8,9,10,11,68],.done),([6],.done),([1,2,3,7,8,9,10,11,12],.done),([1,2,3,7,8,9,10,11,12,30,69],.done),([1,2,3,7,8,9,10,11,12,30,69],.done),([1,2,3,7,8,9,10],.done),([1,2,3,7,8,9,10,11,12],.done),([1,2,3,7,8,9,10,11,12,30,80],.done),([1,2,3,7,8,9,10],.done),([1,2,3,7,8,9,10,92],.done),([6],.done),([1,2,3,7,8,9,10,11,12],.done),([1,2,3,7,8,9,10,11,12,30,93],.done),([1,2,3,7,8,9,10,11,12],.done),([1,2,3,7,8,9,10,11,12,30,95],.done),([1,2,3,7,8,9,10],.done),([1,2,3,7,8,9,10,102],.done),([6],.done),([1,2,3,7,8,9,10,11,12],.done),([1,2,3,7,8,9,10,11,12,30,103],.done),([1,2,3,7,8,9,10],.done),([1,2,3,7,8,9,10,11,12],.done),([1,2,3,7,8,9,10,11,12,30,108],.done),([1,2,3,7,8,9,10,11,12],.done),([1,2,3,7,8,9,10,11,12,30,110],.done),([1,2,3,7,8,9,10],.done),([1,2,3,7,8,9,10,121],.done),([6],.done),([1,2,3,7,8,9,10,11,12],.done),([1,2,3,7,8,9,10,11,12,30,122],.done),([1,2,3,7,8,9,10],.done),([1,2,3,7,8,9,10,133],.done),([6],.done),([1,2,3,7,8,9,10,11,12],(.one 0 (.one 1 (.one 3 (.one 4 (.one 2 (.one 5 (.one 6 (.one 7 .done))))))))),([1,2,3,7,8,9,10,11,12,30,140],.done),([1,2,3,7,8,9,10,11,12],.done),([1,2,3,7,8,9,10,150],.done),([1,2,3,7,8,9,10,11,12],.done),([6],.done),([1,2,3,201],.done),([6],.done),([1,2,3,13],.done),([1,2,3,13,206],.done),([1,2,3,13,218],.done),([6],.done),([1,2,3,13],.done),([1,2,3,14],.done),([1,2,3,14,223],.done),([1,2,3,14,15],.done),([1,2,3,14,249],.done),([6],.done),([1,2,3,14],.done),([6],.done)]
noncomputable def GD:Cx:=⟨Tryz.prog,57,Tryz.f57,250,[300030,300036,300040,300046,300050,300056,300065,300073,300077,300083,300088,300098,300106,300113,300117,300125,300129,300135,300138,300143,300147,300156,300164,300173,300183,300190,300197,300204,300210,300221,300227,300232,300237,300243],[],[.t 6]⟩
theorem C4:Good GD:=⟨Tryz.func57,by kernel_rfl⟩
theorem Y6:GD.rs=[.t 6]:=rfl
theorem Sd (hl:args.length≤250) (h:Run GD K [.code Z2] (Ak args) E σ):AP Tryz.prog 57 args σ K:=
 AT (cx:=GD) (code:=Tryz.f57.body.getD .skip) C4 (by kernel_rfl) Tryz.ntmps57 hl (AW GD _ bU _ [] (by kernel_rfl)) h
def NI:C:=(.seq (.reg [Qo 1 (.box (.t 0) false),
 Qb 2 false] [1])
 (.seq (.seq (.reg [Qd 3 1 0,
 Ql 4 3,
 Qc 5 101 4,
 Qo 6 (.un .not (.t 5)),
 Qm 7 6,
 ⟨some 8,.fld (.t 1) 1,some (7,false)⟩,
 ⟨some 9,.ldl (.t 8) none,some (7,false)⟩,
 ⟨some 10,.len (.t 9),some (7,false)⟩,
 ⟨some 11,.bin .gtr (.t 10) (.c (.d (.int .i64 6))),some (7,false)⟩,
 Qr 12 7 11,
 Qm 13 12,
 ⟨some 14,.fld (.t 1) 1,some (13,false)⟩,
 ⟨some 15,.ldl (.t 14) none,some (13,false)⟩,
 ⟨some 16,.call 52 [(.t 15),(.c (.fn 51 [] []))],some (13,false)⟩,
 ⟨some 17,.un .not (.t 16),some (13,false)⟩,
 Qr 18 13 17] [1,18])
 (.cond (.t 18) (.seq (.reg [Qb 2 false] [2])
 .ret)
 .skip))
 (.seq (.seq (.reg [Qd 19 1 2,
 Ql 20 19,
 Qo 21 (.len (.t 20)),
 Qo 22 (.bin .lss (.t 21) (.c (.d (.int .i64 1)))),
 Qm 23 22,
 ⟨some 24,.fld (.t 1) 2,some (23,false)⟩,
 ⟨some 25,.ldl (.t 24) none,some (23,false)⟩,
 ⟨some 26,.len (.t 25),some (23,false)⟩,
 ⟨some 27,.bin .gtr (.t 26) (.c (.d (.int .i64 8))),some (23,false)⟩,
 Qr 28 23 27] [1,28])
 (.cond (.t 28) (.seq (.reg [Qb 2 false] [2])
 .ret)
 .skip))
 (.seq (.reg [Qd 29 1 2,
 Ql 30 29,
 Qo 31 (.call 102 [(.t 30),(.c (.fn 103 [] []))]),
 Qm 2 31] [2])
 .ret))))
noncomputable def FB:Cx:=⟨Tryz.prog,50,Tryz.f50,32,[300004,300009,300015,300020,300025,300030],[],[.t 2]⟩
theorem NT:Good FB:=⟨Tryz.func50,by kernel_rfl⟩
theorem UC:FB.rs=[.t 2]:=rfl
theorem Uz (hl:args.length≤32) (h:Run FB K [.code NI] (Ak args) E σ):AP Tryz.prog 50 args σ K:=
 AT (cx:=FB) (code:=Tryz.f50.body.getD .skip) NT (by kernel_rfl) Tryz.ntmps50 hl (AW FB _ (Aw NI) _ [] (by kernel_rfl)) h
def RW:C:=(.seq (.reg [Qb 2 false] [0])
 (.seq (.reg [Qm 3 0,
 Qo 4 (.call 107 [(.t 3),(.c (.d (.int .i64 1)))]),
 Qm 2 4] [2])
 .ret))
noncomputable def Gq:Cx:=⟨Tryz.prog,51,Tryz.f51,5,[],[],[.t 2]⟩
theorem R2:Good Gq:=⟨Tryz.func51,by kernel_rfl⟩
theorem XY:Gq.rs=[.t 2]:=rfl
theorem YW (hl:args.length≤5) (h:Run Gq K [.code RW] (Ak args) E σ):AP Tryz.prog 51 args σ K:=
 AT (cx:=Gq) (code:=Tryz.f51.body.getD .skip) R2 (by kernel_rfl) Tryz.ntmps51 hl (AW Gq _ (Aw RW) _ [] (by kernel_rfl)) h
def MU:C:=(.seq (.reg [Qo 3 (.box (.t 1) true),
 Qb 4 false] [0,3])
 (.seq (.reg [Qm 5 0,
 Qo 6 (.mkf 109 [] [(.t 3)]),
 Qk 7 108 5 6,
 Qo 8 (.un .not (.t 7)),
 Qm 4 8] [4])
 .ret))
noncomputable def Ec:Cx:=⟨Tryz.prog,52,Tryz.f52,9,[3],[],[.t 4]⟩
theorem M0:Good Ec:=⟨Tryz.func52,by kernel_rfl⟩
theorem TH:Ec.rs=[.t 4]:=rfl
theorem Tq (hl:args.length≤9) (h:Run Ec K [.code MU] (Ak args) E σ):AP Tryz.prog 52 args σ K:=
 AT (cx:=Ec) (code:=Tryz.f52.body.getD .skip) M0 (by kernel_rfl) Tryz.ntmps52 hl (AW Ec _ (Aw MU) _ [] (by kernel_rfl)) h
def OX:C:=(.seq (.reg [Qo 36 (.bin .lss (.t 35) (.t 34))] [0,2,4,33,34,35,36])
 (.seq (.cond (.t 36) .skip
 (.exit 0))
 (.seq (.block 1 (.seq (.reg [Qo 37 (.ix (.t 33) (.t 35) 6),
 Qo 38 (.ld (.t 37) (some 6)),
 Qo 8 (.al [(.d (.int .i64 0)),(.d (.str [])),(.d (.int .i64 0)),.AO,.AO,.AO] false),
 Qz 8 38 6] [0,2,4,8,33,34,35])
 (.seq (.reg [Qm 39 0,
 Qo 40 (.ldl (.t 8) (some 6)),
 Qm 41 2,
 Qp 42 41 1,
 Qo 43 (.call 53 [(.t 39),(.t 40),(.t 42)]),
 Qo 44 (.un .not (.t 43))] [0,2,4,33,34,35,44])
 (.cond (.t 44) (.seq (.reg [Qb 6 false] [6])
 .ret)
 .skip))))
 (.reg [Qp 45 35 1,
 Qm 35 45] [0,2,4,33,34,35]))))
def OY:C:=(.seq (.reg [Qo 50 (.bin .lss (.t 49) (.t 48))] [0,2,47,48,49,50])
 (.seq (.cond (.t 50) .skip
 (.exit 2))
 (.seq (.block 3 (.seq (.reg [Qo 51 (.ix (.t 47) (.t 49) 8),
 Qo 52 (.ld (.t 51) (some 8)),
 Qo 10 (.al [(.d (.str [])),.AO,(.d (.int .i64 0)),(.d (.str [])),(.d (.int .i64 0)),.AO,.AO,.AO] false),
 Qz 10 52 8] [0,2,10,47,48,49])
 (.seq (.reg [Qm 53 0,
 Qd 54 10 2,
 Qo 55 (.ldl (.t 54) (some 6)),
 Qm 56 2,
 Qp 57 56 1,
 Qo 58 (.call 53 [(.t 53),(.t 55),(.t 57)]),
 Qo 59 (.un .not (.t 58))] [0,2,47,48,49,59])
 (.cond (.t 59) (.seq (.reg [Qb 6 false] [6])
 .ret)
 .skip))))
 (.reg [Qp 60 49 1,
 Qm 49 60] [0,2,47,48,49]))))
def KC:C:=(.seq (.reg [Qo 4 (.box (.t 1) false),
 Qb 6 false] [0,2,4])
 (.seq (.reg [Qm 11 0,
 Qo 12 (.nck (.t 11)),
 Qd 13 12 0,
 Qo 14 (.ld (.t 13) none),
 Qp 15 14 1,
 Qo 16 (.nck (.t 11)),
 Qd 17 16 0,
 Qz 17 15 1] [0,2,4])
 (.seq (.seq (.reg [Qm 18 0,
 Qo 19 (.nck (.t 18)),
 Qd 20 19 0,
 Qo 21 (.ld (.t 20) none),
 Qo 22 (.bin .gtr (.t 21) (.c (.d (.int .i64 600)))),
 Qm 23 22,
 ⟨some 24,.mv (.t 2),some (23,false)⟩,
 ⟨some 25,.bin .gtr (.t 24) (.c (.d (.int .i64 40))),some (23,false)⟩,
 Qr 26 23 25,
 Qm 27 26,
 ⟨some 28,.ldl (.t 4) (some 6),some (27,false)⟩,
 ⟨some 29,.call 110 [(.t 28)],some (27,false)⟩,
 ⟨some 30,.un .not (.t 29),some (27,false)⟩,
 Qr 31 27 30] [0,2,4,31])
 (.cond (.t 31) (.seq (.reg [Qb 6 false] [6])
 .ret)
 .skip))
 (.seq (.seq (.reg [Qd 32 4 4,
 Ql 33 32,
 Qo 34 (.len (.t 33)),
 Qi 35 0] [0,2,4,33,34,35])
 (.block 0 (.loop OX)))
 (.seq (.seq (.reg [Qd 46 4 5,
 Ql 47 46,
 Qo 48 (.len (.t 47)),
 Qi 49 0] [0,2,47,48,49])
 (.block 2 (.loop OY)))
 (.seq (.reg [Qb 6 true] [6])
 .ret))))))
noncomputable def Dg:Cx:=⟨Tryz.prog,53,Tryz.f53,61,[300028,300033,300040,300047,300055],[],[.t 6]⟩
theorem CP:Good Dg:=⟨Tryz.func53,by kernel_rfl⟩
theorem Qg:Dg.rs=[.t 6]:=rfl
theorem KY (hl:args.length≤61) (h:Run Dg K [.code KC] (Ak args) E σ):AP Tryz.prog 53 args σ K:=
 AT (cx:=Dg) (code:=Tryz.f53.body.getD .skip) CP (by kernel_rfl) Tryz.ntmps53 hl (AW Dg _ (Aw KC) _ [] (by kernel_rfl)) h
def cH:C:=(.seq (.seq (.reg [Qm 40 6,
 Qm 41 0,
 Qo 42 (.Lp (.t 41)),
 Qo 43 (.bin .lss (.t 40) (.t 42)),
 Qm 44 43,
 ⟨some 45,.mv (.t 0),some (44,true)⟩,
 ⟨some 46,.mv (.t 6),some (44,true)⟩,
 ⟨some 47,.Oj (.t 45) (.t 46),some (44,true)⟩,
 ⟨some 48,.bin .neq (.t 47) (.c (.d (.int .u8 10))),some (44,true)⟩,
 Qa 49 44 48] [0,5,6,49])
 (.cond (.t 49) .skip
 (.exit 2)))
 (.block 3 (.reg [Qm 50 6,
 Qp 51 50 1,
 Qm 6 51] [0,5,6])))
def US:C:=(.seq (.seq (.reg [Qm 77 6,
 Qm 78 8,
 Qo 79 (.bin .add (.t 77) (.t 78)),
 Qm 80 0,
 Qo 81 (.Lp (.t 80)),
 Qo 82 (.bin .lss (.t 79) (.t 81)),
 Qm 83 82,
 ⟨some 84,.mv (.t 0),some (83,true)⟩,
 ⟨some 85,.mv (.t 6),some (83,true)⟩,
 ⟨some 86,.mv (.t 8),some (83,true)⟩,
 ⟨some 87,.bin .add (.t 85) (.t 86),some (83,true)⟩,
 ⟨some 88,.Oj (.t 84) (.t 87),some (83,true)⟩,
 ⟨some 89,.call 69 [(.t 88)],some (83,true)⟩,
 ⟨some 90,.mv (.t 89),some (83,true)⟩,
 ⟨some 91,.mv (.t 0),some (90,false)⟩,
 ⟨some 92,.mv (.t 6),some (90,false)⟩,
 ⟨some 93,.mv (.t 8),some (90,false)⟩,
 ⟨some 94,.bin .add (.t 92) (.t 93),some (90,false)⟩,
 ⟨some 95,.Oj (.t 91) (.t 94),some (90,false)⟩,
 ⟨some 96,.call 70 [(.t 95)],some (90,false)⟩,
 ⟨some 97,.pick (.t 90) (.c (.d (.bool true))) (.t 96),some (83,true)⟩,
 ⟨some 98,.mv (.t 97),some (83,true)⟩,
 ⟨some 99,.mv (.t 0),some (98,false)⟩,
 ⟨some 100,.mv (.t 6),some (98,false)⟩,
 ⟨some 101,.mv (.t 8),some (98,false)⟩,
 ⟨some 102,.bin .add (.t 100) (.t 101),some (98,false)⟩,
 ⟨some 103,.Oj (.t 99) (.t 102),some (98,false)⟩,
 ⟨some 104,.call 71 [(.t 103)],some (98,false)⟩,
 ⟨some 105,.pick (.t 98) (.c (.d (.bool true))) (.t 104),some (83,true)⟩,
 ⟨some 106,.mv (.t 105),some (83,true)⟩,
 ⟨some 107,.mv (.t 0),some (106,false)⟩,
 ⟨some 108,.mv (.t 6),some (106,false)⟩,
 ⟨some 109,.mv (.t 8),some (106,false)⟩,
 ⟨some 110,.bin .add (.t 108) (.t 109),some (106,false)⟩,
 ⟨some 111,.Oj (.t 107) (.t 110),some (106,false)⟩,
 ⟨some 112,.bin .eql (.t 111) (.c (.d (.int .u8 95))),some (106,false)⟩,
 ⟨some 113,.pick (.t 106) (.c (.d (.bool true))) (.t 112),some (83,true)⟩,
 Qa 114 83 113] [0,5,6,7,8,114])
 (.cond (.t 114) .skip
 (.exit 5)))
 (.block 6 (.reg [Qm 115 8,
 Qp 116 115 1,
 Qm 8 116] [0,5,6,7,8])))
def UT:C:=(.seq (.seq (.reg [Qm 144 6,
 Qm 145 8,
 Qo 146 (.bin .add (.t 144) (.t 145)),
 Qm 147 0,
 Qo 148 (.Lp (.t 147)),
 Qo 149 (.bin .lss (.t 146) (.t 148)),
 Qm 150 149,
 ⟨some 151,.mv (.t 0),some (150,true)⟩,
 ⟨some 152,.mv (.t 6),some (150,true)⟩,
 ⟨some 153,.mv (.t 8),some (150,true)⟩,
 ⟨some 154,.bin .add (.t 152) (.t 153),some (150,true)⟩,
 ⟨some 155,.Oj (.t 151) (.t 154),some (150,true)⟩,
 ⟨some 156,.call 71 [(.t 155)],some (150,true)⟩,
 Qa 157 150 156] [0,5,6,7,8,157])
 (.cond (.t 157) .skip
 (.exit 7)))
 (.block 8 (.reg [Qm 158 8,
 Qp 159 158 1,
 Qm 8 159] [0,5,6,7,8])))
def cI:C:=(.seq (.seq (.reg [Qm 15 6,
 Qm 16 0,
 Qo 17 (.Lp (.t 16)),
 Qo 18 (.bin .lss (.t 15) (.t 17))] [0,5,6,18])
 (.cond (.t 18) .skip
 (.exit 0)))
 (.block 1 (.seq (.reg [Qm 19 0,
 Qm 20 6,
 Qo 21 (.Oj (.t 19) (.t 20)),
 Qm 7 21] [0,5,6,7])
 (.seq (.seq (.reg [Qm 22 7,
 Qo 23 (.bin .eql (.t 22) (.c (.d (.int .u8 9)))),
 Qm 24 23,
 ⟨some 25,.mv (.t 7),some (24,false)⟩,
 ⟨some 26,.bin .eql (.t 25) (.c (.d (.int .u8 10))),some (24,false)⟩,
 Qr 27 24 26,
 Qm 28 27,
 ⟨some 29,.mv (.t 7),some (28,false)⟩,
 ⟨some 30,.bin .eql (.t 29) (.c (.d (.int .u8 13))),some (28,false)⟩,
 Qr 31 28 30,
 Qm 32 31,
 ⟨some 33,.mv (.t 7),some (32,false)⟩,
 ⟨some 34,.bin .eql (.t 33) (.c (.d (.int .u8 32))),some (32,false)⟩,
 Qr 35 32 34] [0,5,6,7,35])
 (.cond (.t 35) (.seq (.reg [Qm 36 6,
 Qp 37 36 1,
 Qm 6 37] [0,5,6])
 (.exit 1))
 .skip))
 (.seq (.seq (.reg [Qm 38 7,
 Qo 39 (.bin .eql (.t 38) (.c (.d (.int .u8 35))))] [0,5,6,7,39])
 (.cond (.t 39) (.seq (.block 2 (.loop cH))
 (.exit 1))
 .skip))
 (.seq (.reg [Qi 8 1] [0,5,6,7,8])
 (.seq (.block 4 (.seq (.reg [Qm 71 7,
 Qc 72 69 71,
 Qm 73 72,
 ⟨some 74,.mv (.t 7),some (73,false)⟩,
 ⟨some 75,.call 70 [(.t 74)],some (73,false)⟩,
 Qr 76 73 75,
 Qm 70 76] [0,5,6,7,8,70])
 (.cond (.t 70) (.seq (.block 5 (.loop US))
 (.seq (.seq (.reg [Qm 117 8,
 Qo 118 (.bin .gtr (.t 117) (.c (.d (.int .i64 24))))] [0,5,6,7,8,118])
 (.cond (.t 118) (.seq (.reg [Qm 119 6,
 Qo 2 (.mv (.c .AO)),
 Qm 3 119,
 Qi 4 9] [2,3,4])
 .ret)
 .skip))
 (.seq (.reg [Qi 9 1] [0,5,6,7,8,9])
 (.seq (.seq (.reg [Qm 120 7,
 Qc 121 70 120] [0,5,6,8,9,121])
 (.cond (.t 121) (.reg [Qi 9 2] [0,5,6,8,9])
 (.seq (.reg [Qm 122 0,
 Qm 123 6,
 Qm 124 6,
 Qm 125 8,
 Qo 126 (.bin .add (.t 124) (.t 125)),
 Qo 127 (.ssl (.t 122) (some (.t 123)) (some (.t 126))),
 Qc 128 72 127] [0,5,6,8,9,128])
 (.cond (.t 128) (.reg [Qi 9 4] [0,5,6,8,9])
 .skip))))
 (.reg [Qm 129 5,
 Qm 130 9,
 Qm 131 0,
 Qm 132 6,
 Qm 133 6,
 Qm 134 8,
 Qo 135 (.bin .add (.t 133) (.t 134)),
 Qo 136 (.ssl (.t 131) (some (.t 132)) (some (.t 135))),
 Qm 137 6,
 Qo 138 (.bld [(.d (.int .i64 0)),(.d (.str [])),(.d (.int .i64 0))] [(0,1,(.t 130)),(1,1,(.t 136)),(2,1,(.t 137))]),
 Qo 139 (.bsl 3 1 [(.d (.int .i64 0)),(.d (.str [])),(.d (.int .i64 0))] [(0,3,(.t 138))]),
 Qo 140 (.app 58 3 32 (.t 129) (.t 139)),
 Qm 5 140] [0,5,6,8])))))
 (.seq (.reg [Qm 142 7,
 Qc 143 71 142,
 Qm 141 143] [0,5,6,7,8,141])
 (.cond (.t 141) (.seq (.block 7 (.loop UT))
 (.seq (.seq (.reg [Qm 160 8,
 Qo 161 (.bin .gtr (.t 160) (.c (.d (.int .i64 1)))),
 Qm 162 161,
 ⟨some 163,.mv (.t 7),some (162,true)⟩,
 ⟨some 164,.bin .eql (.t 163) (.c (.d (.int .u8 48))),some (162,true)⟩,
 Qa 165 162 164] [0,5,6,8,165])
 (.cond (.t 165) (.seq (.reg [Qm 166 6,
 Qo 2 (.mv (.c .AO)),
 Qm 3 166,
 Qi 4 2] [2,3,4])
 .ret)
 .skip))
 (.seq (.seq (.reg [Qm 168 0,
 Qm 169 6,
 Qm 170 6,
 Qm 171 8,
 Qo 172 (.bin .add (.t 170) (.t 171)),
 Qo 173 (.ssl (.t 168) (some (.t 169)) (some (.t 172))),
 Qc 174 73 173,
 Qm 167 174,
 Qo 175 (.ext (.t 167) 0),
 Qo 176 (.ext (.t 167) 1),
 Qm 10 175,
 Qm 11 176] [0,5,6,8,11])
 (.seq (.reg [Qm 177 11,
 Qo 178 (.un .not (.t 177))] [0,5,6,8,178])
 (.cond (.t 178) (.seq (.reg [Qm 179 6,
 Qo 2 (.mv (.c .AO)),
 Qm 3 179,
 Qi 4 9] [2,3,4])
 .ret)
 .skip)))
 (.reg [Qm 180 5,
 Qm 181 0,
 Qm 182 6,
 Qm 183 6,
 Qm 184 8,
 Qo 185 (.bin .add (.t 183) (.t 184)),
 Qo 186 (.ssl (.t 181) (some (.t 182)) (some (.t 185))),
 Qm 187 6,
 Qo 188 (.bld [(.d (.int .i64 0)),(.d (.str [])),(.d (.int .i64 0))] [(0,1,(.c (.d (.int .i64 3)))),(1,1,(.t 186)),(2,1,(.t 187))]),
 Qo 189 (.bsl 3 1 [(.d (.int .i64 0)),(.d (.str [])),(.d (.int .i64 0))] [(0,3,(.t 188))]),
 Qo 190 (.app 58 3 32 (.t 180) (.t 189)),
 Qm 5 190] [0,5,6,8]))))
 (.seq (.reg [Qm 52 0,
 Qm 53 6,
 Qo 54 (.ssl (.t 52) (some (.t 53)) none),
 Qc 55 74 54,
 Qm 8 55] [0,5,6,8])
 (.seq (.seq (.reg [Qm 56 8,
 Qe 57 56 0] [0,5,6,8,57])
 (.cond (.t 57) (.seq (.reg [Qm 58 6,
 Qo 2 (.mv (.c .AO)),
 Qm 3 58,
 Qi 4 2] [2,3,4])
 .ret)
 .skip))
 (.reg [Qm 59 5,
 Qm 60 0,
 Qm 61 6,
 Qm 62 6,
 Qm 63 8,
 Qo 64 (.bin .add (.t 62) (.t 63)),
 Qo 65 (.ssl (.t 60) (some (.t 61)) (some (.t 64))),
 Qm 66 6,
 Qo 67 (.bld [(.d (.int .i64 0)),(.d (.str [])),(.d (.int .i64 0))] [(0,1,(.c (.d (.int .i64 5)))),(1,1,(.t 65)),(2,1,(.t 66))]),
 Qo 68 (.bsl 3 1 [(.d (.int .i64 0)),(.d (.str [])),(.d (.int .i64 0))] [(0,3,(.t 67))]),
 Qo 69 (.app 58 3 32 (.t 59) (.t 68)),
 Qm 5 69] [0,5,6,8]))))))))
 (.reg [Qm 191 6,
 Qm 192 8,
 Qo 193 (.bin .add (.t 191) (.t 192)),
 Qm 6 193] [0,5,6]))))))))
def ZU:C:=(.seq (.reg [Qo 2 (.mv (.c .AO)),
 Qi 3 0,
 Qi 4 0] [0])
 (.seq (.seq (.reg [Qm 12 0,
 Qo 13 (.Lp (.t 12)),
 Qo 14 (.bin .gtr (.t 13) (.c (.d (.int .i64 16384))))] [0,14])
 (.cond (.t 14) (.seq (.reg [Qo 2 (.mv (.c .AO)),
 Qi 3 0,
 Qi 4 9] [2,3,4])
 .ret)
 .skip))
 (.seq (.reg [Qo 5 (.mv (.c .AO))] [0,5])
 (.seq (.seq (.reg [Qi 6 0] [0,5,6])
 (.block 0 (.loop cI)))
 (.seq (.reg [Qm 194 5,
 Qm 195 0,
 Qo 196 (.Lp (.t 195)),
 Qo 197 (.bld [(.d (.int .i64 0)),(.d (.str [])),(.d (.int .i64 0))] [(0,1,(.c (.d (.int .i64 6)))),(1,1,(.c (.d (.str [])))),(2,1,(.t 196))]),
 Qo 198 (.bsl 3 1 [(.d (.int .i64 0)),(.d (.str [])),(.d (.int .i64 0))] [(0,3,(.t 197))]),
 Qo 199 (.app 58 3 32 (.t 194) (.t 198)),
 Qm 2 199,
 Qi 3 0,
 Qi 4 0] [2,3,4])
 .ret)))))
noncomputable def G4:Cx:=⟨Tryz.prog,29,Tryz.f29,200,[],[],[.t 2,.t 3,.t 4]⟩
theorem HS:Good G4:=⟨Tryz.func29,by kernel_rfl⟩
theorem jY:G4.rs=[.t 2,.t 3,.t 4]:=rfl
theorem lS (hl:args.length≤200) (h:Run G4 K [.code ZU] (Ak args) E σ):AP Tryz.prog 29 args σ K:=
 AT (cx:=G4) (code:=Tryz.f29.body.getD .skip) HS (by kernel_rfl) Tryz.ntmps29 hl (AW G4 _ (Aw ZU) _ [] (by kernel_rfl)) h
def SY:C:=(.seq (.reg [Qi 2 0] [0])
 (.seq (.reg [Qo 4 (.bsl 1 8 [(.d (.int .i64 0)),(.d (.int .i64 0)),(.d (.int .i64 0)),(.d (.int .i64 0)),(.d (.int .i64 0)),(.d (.int .i64 0)),(.d (.int .i64 0)),(.d (.int .i64 0))] [(0,1,(.c (.d (.int .i64 0)))),(1,1,(.c (.d (.int .i64 2)))),(2,1,(.c (.d (.int .i64 2)))),(3,1,(.c (.d (.int .i64 3)))),(4,1,(.c (.d (.int .i64 1)))),(5,1,(.c (.d (.int .i64 1)))),(6,1,(.c (.d (.int .i64 1)))),(7,1,(.c (.d (.int .i64 2))))]),
 Qm 3 4] [0,3])
 (.seq (.seq (.reg [Qm 5 0,
 Qo 6 (.bin .lss (.t 5) (.c (.d (.int .i64 1)))),
 Qm 7 6,
 ⟨some 8,.mv (.t 0),some (7,false)⟩,
 ⟨some 9,.mv (.t 3),some (7,false)⟩,
 ⟨some 10,.len (.t 9),some (7,false)⟩,
 ⟨some 11,.bin .geq (.t 8) (.t 10),some (7,false)⟩,
 Qr 12 7 11] [0,3,12])
 (.cond (.t 12) (.seq (.reg [Qi 2 0] [2])
 .ret)
 .skip))
 (.seq (.reg [Qm 13 3,
 Qm 14 0,
 Qo 15 (.ix (.t 13) (.t 14) 1),
 Qo 16 (.ld (.t 15) none),
 Qm 2 16] [2])
 .ret))))
noncomputable def Hc:Cx:=⟨Tryz.prog,111,Tryz.f111,17,[],[],[.t 2]⟩
theorem J1:Good Hc:=⟨Tryz.func111,by kernel_rfl⟩
theorem Y4:Hc.rs=[.t 2]:=rfl
theorem Zj (hl:args.length≤17) (h:Run Hc K [.code SY] (Ak args) E σ):AP Tryz.prog 111 args σ K:=
 AT (cx:=Hc) (code:=Tryz.f111.body.getD .skip) J1 (by kernel_rfl) Tryz.ntmps111 hl (AW Hc _ (Aw SY) _ [] (by kernel_rfl)) h
def Oy:C:=(.seq (.reg [Qb 2 false] [0])
 (.seq (.reg [Qm 3 0,
 Qo 4 (.call 107 [(.t 3),(.c (.d (.int .i64 2)))]),
 Qm 2 4] [2])
 .ret))
noncomputable def GI:Cx:=⟨Tryz.prog,101,Tryz.f101,5,[],[],[.t 2]⟩
theorem PH:Good GI:=⟨Tryz.func101,by kernel_rfl⟩
theorem WY:GI.rs=[.t 2]:=rfl
theorem Ww (hl:args.length≤5) (h:Run GI K [.code Oy] (Ak args) E σ):AP Tryz.prog 101 args σ K:=
 AT (cx:=GI) (code:=Tryz.f101.body.getD .skip) PH (by kernel_rfl) Tryz.ntmps101 hl (AW GI _ (Aw Oy) _ [] (by kernel_rfl)) h
def IE:C:=(.seq (.reg [Qo 3 (.box (.t 1) true),
 Qb 4 false] [0,3])
 (.seq (.reg [Qm 5 0,
 Qo 6 (.mkf 150 [] [(.t 3)]),
 Qk 7 149 5 6,
 Qo 8 (.un .not (.t 7)),
 Qm 4 8] [4])
 .ret))
noncomputable def Cu:Cx:=⟨Tryz.prog,102,Tryz.f102,9,[3],[],[.t 4]⟩
theorem IM:Good Cu:=⟨Tryz.func102,by kernel_rfl⟩
theorem Nw:Cu.rs=[.t 4]:=rfl
theorem O2 (hl:args.length≤9) (h:Run Cu K [.code IE] (Ak args) E σ):AP Tryz.prog 102 args σ K:=
 AT (cx:=Cu) (code:=Tryz.f102.body.getD .skip) IM (by kernel_rfl) Tryz.ntmps102 hl (AW Cu _ (Aw IE) _ [] (by kernel_rfl)) h
def LP:C:=(.seq (.reg [Qo 1 (.box (.t 0) false),
 Qb 2 false] [1])
 (.seq (.reg [Qd 3 1 0,
 Ql 4 3,
 Qc 5 101 4,
 Qm 6 5,
 ⟨some 7,.fld (.t 1) 1,some (6,true)⟩,
 ⟨some 8,.ldl (.t 7) none,some (6,true)⟩,
 ⟨some 9,.len (.t 8),some (6,true)⟩,
 ⟨some 10,.bin .leq (.t 9) (.c (.d (.int .i64 6))),some (6,true)⟩,
 Qa 11 6 10,
 Qm 12 11,
 ⟨some 13,.fld (.t 1) 1,some (12,true)⟩,
 ⟨some 14,.ldl (.t 13) none,some (12,true)⟩,
 ⟨some 15,.call 104 [(.t 14),(.c (.fn 105 [] []))],some (12,true)⟩,
 Qa 16 12 15,
 Qm 2 16] [2])
 .ret))
noncomputable def EZ:Cx:=⟨Tryz.prog,103,Tryz.f103,17,[300004,300008,300014],[],[.t 2]⟩
theorem L4:Good EZ:=⟨Tryz.func103,by kernel_rfl⟩
theorem SJ:EZ.rs=[.t 2]:=rfl
theorem Su (hl:args.length≤17) (h:Run EZ K [.code LP] (Ak args) E σ):AP Tryz.prog 103 args σ K:=
 AT (cx:=EZ) (code:=Tryz.f103.body.getD .skip) L4 (by kernel_rfl) Tryz.ntmps103 hl (AW EZ _ (Aw LP) _ [] (by kernel_rfl)) h
def Hp:C:=(.seq (.reg [Qo 3 (.box (.t 1) true),
 Qb 4 false] [0,3])
 (.seq (.reg [Qm 5 0,
 Qo 6 (.mkf 152 [] [(.t 3)]),
 Qk 7 151 5 6,
 Qo 8 (.un .not (.t 7)),
 Qm 4 8] [4])
 .ret))
noncomputable def Cj:Cx:=⟨Tryz.prog,104,Tryz.f104,9,[3],[],[.t 4]⟩
theorem Hs:Good Cj:=⟨Tryz.func104,by kernel_rfl⟩
theorem Na:Cj.rs=[.t 4]:=rfl
theorem Nr (hl:args.length≤9) (h:Run Cj K [.code Hp] (Ak args) E σ):AP Tryz.prog 104 args σ K:=
 AT (cx:=Cj) (code:=Tryz.f104.body.getD .skip) Hs (by kernel_rfl) Tryz.ntmps104 hl (AW Cj _ (Aw Hp) _ [] (by kernel_rfl)) h
def JX:C:=(.seq (.reg [Qo 1 (.box (.t 0) false),
 Qb 2 false] [1])
 (.seq (.reg [Qo 3 (.ldl (.t 1) (some 3)),
 Qo 4 (.call 106 [(.t 3),(.c (.d (.int .i64 1)))]),
 Qm 2 4] [2])
 .ret))
noncomputable def D7:Cx:=⟨Tryz.prog,105,Tryz.f105,5,[300003],[],[.t 2]⟩
theorem J9:Good D7:=⟨Tryz.func105,by kernel_rfl⟩
theorem Pf:D7.rs=[.t 2]:=rfl
theorem QZ (hl:args.length≤5) (h:Run D7 K [.code JX] (Ak args) E σ):AP Tryz.prog 105 args σ K:=
 AT (cx:=D7) (code:=Tryz.f105.body.getD .skip) J9 (by kernel_rfl) Tryz.ntmps105 hl (AW D7 _ (Aw JX) _ [] (by kernel_rfl)) h
def NL:C:=(.seq (.reg [Qo 2 (.box (.t 0) false),
 Qo 3 (.box (.t 1) true),
 Qb 4 false] [2,3])
 (.seq (.seq (.reg [Qo 7 (.ld (.t 3) none),
 Qo 8 (.bin .gtr (.t 7) (.c (.d (.int .i64 40))))] [2,3,8])
 (.cond (.t 8) (.seq (.reg [Qb 4 false] [4])
 .ret)
 .skip))
 (.seq (.reg [Qi 5 0,
 Qi 6 0] [2,3,5,6])
 (.seq (.seq (.reg [Qd 9 2 0,
 Ql 10 9] [2,3,5,6,10])
 (.block 0 (.seq (.seq (.reg [Qe 12 10 1,
 Qm 11 12] [2,3,5,6,10,11])
 (.cond (.t 11) .skip
 (.seq (.reg [Qe 13 10 2,
 Qm 11 13] [2,3,5,6,10,11])
 (.cond (.t 11) .skip
 (.reg [Qe 14 10 3,
 Qm 11 14] [2,3,5,6,10,11])))))
 (.cond (.t 11) .skip
 (.seq (.reg [Qe 16 10 4,
 Qm 15 16] [2,3,5,6,10,15])
 (.cond (.t 15) (.seq (.reg [Qd 17 2 1,
 Ql 18 17,
 Qc 19 51 18,
 Qo 20 (.un .not (.t 19))] [2,3,5,6,20])
 (.cond (.t 20) (.seq (.reg [Qb 4 false] [4])
 .ret)
 .skip))
 (.seq (.reg [Qe 22 10 5,
 Qm 21 22] [2,3,5,10,21])
 (.cond (.t 21) (.seq (.seq (.reg [Qd 23 2 1,
 Ql 24 23,
 Qc 25 101 24,
 Qo 26 (.un .not (.t 25))] [2,3,5,26])
 (.cond (.t 26) (.seq (.reg [Qb 4 false] [4])
 .ret)
 .skip))
 (.reg [Qi 6 6] [2,3,5,6]))
 (.seq (.reg [Qe 28 10 6,
 Qm 27 28] [2,3,10,27])
 (.cond (.t 27) (.reg [Qi 5 2,
 Qi 6 6] [2,3,5,6])
 (.seq (.seq (.reg [Qe 30 10 7,
 Qm 29 30] [2,3,10,29])
 (.cond (.t 29) .skip
 (.reg [Qe 31 10 8,
 Qm 29 31] [2,3,10,29])))
 (.cond (.t 29) (.reg [Qi 5 1,
 Qi 6 1] [2,3,5,6])
 (.seq (.reg [Qe 33 10 9,
 Qm 32 33] [2,3,32])
 (.cond (.t 32) (.reg [Qi 5 1,
 Qi 6 7] [2,3,5,6])
 (.seq (.reg [Qb 4 false] [4])
 .ret)))))))))))))))
 (.seq (.seq (.reg [Qd 34 2 0,
 Ql 35 34,
 Qo 36 (.bin .neq (.t 35) (.c (.d (.int .i64 4)))),
 Qm 37 36,
 ⟨some 38,.fld (.t 2) 0,some (37,true)⟩,
 ⟨some 39,.ldl (.t 38) none,some (37,true)⟩,
 ⟨some 40,.bin .neq (.t 39) (.c (.d (.int .i64 5))),some (37,true)⟩,
 Qa 41 37 40,
 Qm 42 41,
 ⟨some 43,.fld (.t 2) 1,some (42,true)⟩,
 ⟨some 44,.ldl (.t 43) none,some (42,true)⟩,
 ⟨some 45,.bin .neq (.t 44) (.c (.d (.str []))),some (42,true)⟩,
 Qa 46 42 45] [2,3,5,6,46])
 (.cond (.t 46) (.seq (.reg [Qb 4 false] [4])
 .ret)
 .skip))
 (.seq (.reg [Qd 47 2 2,
 Ql 48 47,
 Qo 49 (.len (.t 48)),
 Qm 50 5,
 Qo 51 (.bin .geq (.t 49) (.t 50)),
 Qm 52 51,
 ⟨some 53,.fld (.t 2) 2,some (52,true)⟩,
 ⟨some 54,.ldl (.t 53) none,some (52,true)⟩,
 ⟨some 55,.len (.t 54),some (52,true)⟩,
 ⟨some 56,.mv (.t 6),some (52,true)⟩,
 ⟨some 57,.bin .leq (.t 55) (.t 56),some (52,true)⟩,
 Qa 58 52 57,
 Qm 59 58,
 ⟨some 60,.fld (.t 2) 2,some (59,true)⟩,
 ⟨some 61,.ldl (.t 60) none,some (59,true)⟩,
 ⟨some 62,.mkf 153 [] [(.t 3)],some (59,true)⟩,
 ⟨some 63,.call 104 [(.t 61),(.t 62)],some (59,true)⟩,
 Qa 64 59 63,
 Qm 4 64] [4])
 .ret))))))
noncomputable def FF:Cx:=⟨Tryz.prog,106,Tryz.f106,65,[3,300010,300018,300024,300035,300039,300044,300048,300054,300061],[],[.t 4]⟩
theorem Ib:Good FF:=⟨Tryz.func106,by kernel_rfl⟩
theorem UF:FF.rs=[.t 4]:=rfl
theorem N0 (hl:args.length≤65) (h:Run FF K [.code NL] (Ak args) E σ):AP Tryz.prog 106 args σ K:=
 AT (cx:=FF) (code:=Tryz.f106.body.getD .skip) Ib (by kernel_rfl) Tryz.ntmps106 hl (AW FF _ (Aw NL) _ [] (by kernel_rfl)) h
def Ox:C:=(.seq (.reg [Qb 4 false] [0,1])
 (.seq (.reg [Qm 9 0,
 Qc 10 21 9,
 Qm 8 10,
 Qo 11 (.ext (.t 8) 0),
 Qo 12 (.ext (.t 8) 1),
 Qo 13 (.ext (.t 8) 2),
 Qm 5 11,
 Qm 6 12,
 Qm 7 13] [0,1,5,7])
 (.seq (.reg [Qm 14 7,
 Qe 15 14 0,
 Qm 16 15,
 ⟨some 17,.mv (.t 5),some (16,true)⟩,
 ⟨some 18,.len (.t 17),some (16,true)⟩,
 ⟨some 19,.bin .eql (.t 18) (.c (.d (.int .i64 2))),some (16,true)⟩,
 Qa 20 16 19,
 Qm 21 20,
 ⟨some 22,.mv (.t 5),some (21,true)⟩,
 ⟨some 23,.ix (.t 22) (.c (.d (.int .i64 0))) 3,some (21,true)⟩,
 ⟨some 24,.fld (.t 23) 0,some (21,true)⟩,
 ⟨some 25,.ld (.t 24) none,some (21,true)⟩,
 ⟨some 26,.mv (.t 1),some (21,true)⟩,
 ⟨some 27,.bin .eql (.t 25) (.t 26),some (21,true)⟩,
 Qa 28 21 27,
 Qm 29 28,
 ⟨some 30,.mv (.t 5),some (29,true)⟩,
 ⟨some 31,.ix (.t 30) (.c (.d (.int .i64 0))) 3,some (29,true)⟩,
 ⟨some 32,.fld (.t 31) 1,some (29,true)⟩,
 ⟨some 33,.ld (.t 32) none,some (29,true)⟩,
 ⟨some 34,.mv (.t 0),some (29,true)⟩,
 ⟨some 35,.bin .eql (.t 33) (.t 34),some (29,true)⟩,
 Qa 36 29 35,
 Qm 4 36] [4])
 .ret)))
noncomputable def GH:Cx:=⟨Tryz.prog,107,Tryz.f107,37,[],[],[.t 4]⟩
theorem Fp:Good GH:=⟨Tryz.func107,by kernel_rfl⟩
theorem WW:GH.rs=[.t 4]:=rfl
theorem Wv (hl:args.length≤37) (h:Run GH K [.code Ox] (Ak args) E σ):AP Tryz.prog 107 args σ K:=
 AT (cx:=GH) (code:=Tryz.f107.body.getD .skip) Fp (by kernel_rfl) Tryz.ntmps107 hl (AW GH _ (Aw Ox) _ [] (by kernel_rfl)) h
def G8:C:=(.seq (.reg [Qb 4 false] [0,1])
 (.seq (.reg [Qm 5 0,
 Qm 6 1,
 Qk 7 154 5 6,
 Qo 8 (.bin .geq (.t 7) (.c (.d (.int .i64 0)))),
 Qm 4 8] [4])
 .ret))
noncomputable def CG:Cx:=⟨Tryz.prog,108,Tryz.f108,9,[],[],[.t 4]⟩
theorem Ge:Good CG:=⟨Tryz.func108,by kernel_rfl⟩
theorem Li:CG.rs=[.t 4]:=rfl
theorem MF (hl:args.length≤9) (h:Run CG K [.code G8] (Ak args) E σ):AP Tryz.prog 108 args σ K:=
 AT (cx:=CG) (code:=Tryz.f108.body.getD .skip) Ge (by kernel_rfl) Tryz.ntmps108 hl (AW CG _ (Aw G8) _ [] (by kernel_rfl)) h
def KB:C:=(.seq (.reg [Qb 3 false] [0,1])
 (.seq (.reg [Qo 4 (.ld (.t 1) none),
 Qm 5 0,
 Qo 6 (.E2 (.t 4) [(.t 5)]),
 Qo 7 (.un .not (.t 6)),
 Qm 3 7] [3])
 .ret))
noncomputable def Df:Cx:=⟨Tryz.prog,109,Tryz.f109,8,[],[],[.t 3]⟩
theorem KO:Good Df:=⟨Tryz.func109,by kernel_rfl⟩
theorem Qf:Df.rs=[.t 3]:=rfl
theorem Ri (hl:args.length≤8) (h:Run Df K [.code KB] (Ak args) E σ):AP Tryz.prog 109 args σ K:=
 AT (cx:=Df) (code:=Tryz.f109.body.getD .skip) KO (by kernel_rfl) Tryz.ntmps109 hl (AW Df _ (Aw KB) _ [] (by kernel_rfl)) h
def NK:C:=(.seq (.reg [Qo 1 (.box (.t 0) false),
 Qb 2 false] [1])
 (.seq (.reg [Qd 7 1 4,
 Ql 8 7,
 Qo 9 (.len (.t 8)),
 Qm 3 9] [1,3])
 (.seq (.reg [Qo 10 (.ldl (.t 1) (some 6)),
 Qo 4 (.al [(.d (.int .i64 0)),(.d (.str [])),(.d (.int .i64 0)),.AO,.AO,.AO] false),
 Qz 4 10 6] [1,3,4])
 (.seq (.seq (.reg [Qd 11 1 0,
 Ql 12 11] [1,3,4,12])
 (.block 0 (.seq (.seq (.reg [Qe 14 12 1,
 Qm 13 14] [1,3,4,12,13])
 (.cond (.t 13) .skip
 (.seq (.reg [Qe 15 12 2,
 Qm 13 15] [1,3,4,12,13])
 (.cond (.t 13) .skip
 (.seq (.reg [Qe 16 12 3,
 Qm 13 16] [1,3,4,12,13])
 (.cond (.t 13) .skip
 (.seq (.reg [Qe 17 12 15,
 Qm 13 17] [1,3,4,12,13])
 (.cond (.t 13) .skip
 (.reg [Qe 18 12 4,
 Qm 13 18] [1,3,4,12,13])))))))))
 (.cond (.t 13) (.seq (.reg [Qm 19 3,
 Qe 20 19 0,
 Qm 21 20,
 ⟨some 22,.ldl (.t 1) (some 6),some (21,true)⟩,
 ⟨some 23,.call 155 [(.t 22)],some (21,true)⟩,
 Qa 24 21 23,
 Qm 2 24] [2])
 .ret)
 (.seq (.reg [Qe 26 12 5,
 Qm 25 26] [1,3,4,12,25])
 (.cond (.t 25) (.seq (.reg [Qm 27 3,
 Qo 28 (.bin .geq (.t 27) (.c (.d (.int .i64 2)))),
 Qm 29 28,
 ⟨some 30,.mv (.t 3),some (29,true)⟩,
 ⟨some 31,.bin .leq (.t 30) (.c (.d (.int .i64 6))),some (29,true)⟩,
 Qa 32 29 31,
 Qm 33 32,
 ⟨some 34,.ldl (.t 1) (some 6),some (33,true)⟩,
 ⟨some 35,.call 156 [(.t 34)],some (33,true)⟩,
 Qa 36 33 35,
 Qm 2 36] [2])
 .ret)
 (.seq (.reg [Qe 38 12 6,
 Qm 37 38] [1,3,4,12,37])
 (.cond (.t 37) (.seq (.reg [Qd 39 4 1,
 ⟨none,.st (.t 39) (.c (.d (.str []))) 1,none⟩] [1,3,4])
 (.seq (.reg [Qm 40 3,
 Qo 41 (.bin .leq (.t 40) (.c (.d (.int .i64 6)))),
 Qm 42 41,
 ⟨some 43,.fld (.t 1) 1,some (42,true)⟩,
 ⟨some 44,.ldl (.t 43) none,some (42,true)⟩,
 ⟨some 45,.call 101 [(.t 44)],some (42,true)⟩,
 Qa 46 42 45,
 Qm 47 46,
 ⟨some 48,.ldl (.t 4) (some 6),some (47,true)⟩,
 ⟨some 49,.call 156 [(.t 48)],some (47,true)⟩,
 Qa 50 47 49,
 Qm 2 50] [2])
 .ret))
 (.seq (.seq (.reg [Qe 52 12 7,
 Qm 51 52] [1,3,4,12,51])
 (.cond (.t 51) .skip
 (.reg [Qe 53 12 17,
 Qm 51 53] [1,3,4,12,51])))
 (.cond (.t 51) (.seq (.reg [Qd 54 4 1,
 ⟨none,.st (.t 54) (.c (.d (.str []))) 1,none⟩] [1,3,4])
 (.seq (.reg [Qm 55 3,
 Qe 56 55 2,
 Qm 57 56,
 ⟨some 58,.fld (.t 1) 1,some (57,true)⟩,
 ⟨some 59,.ldl (.t 58) none,some (57,true)⟩,
 ⟨some 60,.call 157 [(.t 59)],some (57,true)⟩,
 Qa 61 57 60,
 Qm 62 61,
 ⟨some 63,.ldl (.t 4) (some 6),some (62,true)⟩,
 ⟨some 64,.call 156 [(.t 63)],some (62,true)⟩,
 Qa 65 62 64,
 Qm 2 65] [2])
 .ret))
 (.seq (.reg [Qe 67 12 8,
 Qm 66 67] [1,3,4,12,66])
 (.cond (.t 66) (.seq (.reg [Qd 68 4 3,
 ⟨none,.st (.t 68) (.c .AO) 1,none⟩] [1,3,4])
 (.seq (.reg [Qm 69 3,
 Qe 70 69 2,
 Qm 71 70,
 ⟨some 72,.fld (.t 1) 3,some (71,true)⟩,
 ⟨some 73,.ldl (.t 72) none,some (71,true)⟩,
 ⟨some 74,.len (.t 73),some (71,true)⟩,
 ⟨some 75,.bin .geq (.t 74) (.c (.d (.int .i64 2))),some (71,true)⟩,
 Qa 76 71 75,
 Qm 77 76,
 ⟨some 78,.fld (.t 1) 3,some (77,true)⟩,
 ⟨some 79,.ldl (.t 78) none,some (77,true)⟩,
 ⟨some 80,.len (.t 79),some (77,true)⟩,
 ⟨some 81,.bin .leq (.t 80) (.c (.d (.int .i64 6))),some (77,true)⟩,
 Qa 82 77 81,
 Qm 83 82,
 ⟨some 84,.fld (.t 1) 3,some (83,true)⟩,
 ⟨some 85,.ldl (.t 84) none,some (83,true)⟩,
 ⟨some 86,.call 52 [(.t 85),(.c (.fn 157 [] []))],some (83,true)⟩,
 Qa 87 83 86,
 Qm 88 87,
 ⟨some 89,.ldl (.t 4) (some 6),some (88,true)⟩,
 ⟨some 90,.call 156 [(.t 89)],some (88,true)⟩,
 Qa 91 88 90,
 Qm 2 91] [2])
 .ret))
 (.seq (.reg [Qe 93 12 9,
 Qm 92 93] [1,3,4,12,92])
 (.cond (.t 92) (.seq (.reg [Qm 94 3,
 Qe 95 94 3,
 Qm 96 95,
 ⟨some 97,.ldl (.t 1) (some 6),some (96,true)⟩,
 ⟨some 98,.call 156 [(.t 97)],some (96,true)⟩,
 Qa 99 96 98,
 Qm 2 99] [2])
 .ret)
 (.seq (.reg [Qe 101 12 10,
 Qm 100 101] [1,3,4,12,100])
 (.cond (.t 100) (.seq (.reg [Qd 102 4 5,
 ⟨none,.st (.t 102) (.c .AO) 1,none⟩] [1,3,4])
 (.seq (.reg [Qm 103 3,
 Qe 104 103 1,
 Qm 105 104,
 ⟨some 106,.fld (.t 1) 5,some (105,true)⟩,
 ⟨some 107,.ldl (.t 106) none,some (105,true)⟩,
 ⟨some 108,.len (.t 107),some (105,true)⟩,
 ⟨some 109,.bin .geq (.t 108) (.c (.d (.int .i64 1))),some (105,true)⟩,
 Qa 110 105 109,
 Qm 111 110,
 ⟨some 112,.fld (.t 1) 5,some (111,true)⟩,
 ⟨some 113,.ldl (.t 112) none,some (111,true)⟩,
 ⟨some 114,.call 158 [(.t 113),(.c (.fn 159 [] []))],some (111,true)⟩,
 Qa 115 111 114,
 Qm 116 115,
 ⟨some 117,.ldl (.t 4) (some 6),some (116,true)⟩,
 ⟨some 118,.call 156 [(.t 117)],some (116,true)⟩,
 Qa 119 116 118,
 Qm 2 119] [2])
 .ret))
 (.seq (.reg [Qe 121 12 11,
 Qm 120 121] [1,3,4,12,120])
 (.cond (.t 120) (.seq (.reg [Qd 122 4 3,
 ⟨none,.st (.t 122) (.c .AO) 1,none⟩] [1,3,4])
 (.seq (.reg [Qm 123 3,
 Qe 124 123 1,
 Qm 125 124,
 ⟨some 126,.fld (.t 1) 3,some (125,true)⟩,
 ⟨some 127,.ldl (.t 126) none,some (125,true)⟩,
 ⟨some 128,.len (.t 127),some (125,true)⟩,
 ⟨some 129,.bin .leq (.t 128) (.c (.d (.int .i64 6))),some (125,true)⟩,
 Qa 130 125 129,
 Qm 131 130,
 ⟨some 132,.fld (.t 1) 3,some (131,true)⟩,
 ⟨some 133,.ldl (.t 132) none,some (131,true)⟩,
 ⟨some 134,.call 52 [(.t 133),(.c (.fn 51 [] []))],some (131,true)⟩,
 Qa 135 131 134,
 Qm 136 135,
 ⟨some 137,.ldl (.t 4) (some 6),some (136,true)⟩,
 ⟨some 138,.call 156 [(.t 137)],some (136,true)⟩,
 Qa 139 136 138,
 Qm 2 139] [2])
 .ret))
 (.seq (.reg [Qe 141 12 12,
 Qm 140 141] [1,3,4,12,140])
 (.cond (.t 140) (.seq (.reg [Qm 142 3,
 Qo 143 (.bin .geq (.t 142) (.c (.d (.int .i64 1)))),
 Qm 144 143,
 ⟨some 145,.mv (.t 3),some (144,true)⟩,
 ⟨some 146,.bin .leq (.t 145) (.c (.d (.int .i64 7))),some (144,true)⟩,
 Qa 147 144 146,
 Qm 148 147,
 ⟨some 149,.ldl (.t 1) (some 6),some (148,true)⟩,
 ⟨some 150,.call 156 [(.t 149)],some (148,true)⟩,
 Qa 151 148 150,
 Qm 2 151] [2])
 .ret)
 (.seq (.reg [Qe 153 12 13,
 Qm 152 153] [1,3,4,12,152])
 (.cond (.t 152) (.seq (.reg [Qd 154 4 2,
 ⟨none,.st (.t 154) (.c (.d (.int .i64 0))) 1,none⟩] [1,3,4])
 (.seq (.reg [Qm 155 3,
 Qe 156 155 2,
 Qm 157 156,
 ⟨some 158,.fld (.t 1) 2,some (157,true)⟩,
 ⟨some 159,.ldl (.t 158) none,some (157,true)⟩,
 ⟨some 160,.call 160 [(.t 159),(.c (.d (.int .i64 1))),(.c (.d (.int .i64 8)))],some (157,true)⟩,
 Qa 161 157 160,
 Qm 162 161,
 ⟨some 163,.ldl (.t 4) (some 6),some (162,true)⟩,
 ⟨some 164,.call 156 [(.t 163)],some (162,true)⟩,
 Qa 165 162 164,
 Qm 2 165] [2])
 .ret))
 (.seq (.reg [Qe 167 12 14,
 Qm 166 167] [1,3,4,12,166])
 (.cond (.t 166) (.seq (.reg [Qd 168 4 2,
 ⟨none,.st (.t 168) (.c (.d (.int .i64 0))) 1,none⟩] [1,3,4])
 (.seq (.reg [Qd 170 1 2,
 Ql 171 170,
 Qc 172 147 171,
 Qm 169 172,
 Qo 173 (.ext (.t 169) 0),
 Qo 174 (.ext (.t 169) 1),
 Qm 5 173,
 Qm 6 174] [3,4,6])
 (.seq (.reg [Qm 175 6,
 Qo 176 (.bin .gtr (.t 175) (.c (.d (.int .i64 0)))),
 Qm 177 176,
 ⟨some 178,.mv (.t 3),some (177,true)⟩,
 ⟨some 179,.mv (.t 6),some (177,true)⟩,
 ⟨some 180,.bin .eql (.t 178) (.t 179),some (177,true)⟩,
 Qa 181 177 180,
 Qm 182 181,
 ⟨some 183,.ldl (.t 4) (some 6),some (182,true)⟩,
 ⟨some 184,.call 156 [(.t 183)],some (182,true)⟩,
 Qa 185 182 184,
 Qm 2 185] [2])
 .ret)))
 (.seq (.reg [Qe 187 12 16,
 Qm 186 187] [1,3,186])
 (.cond (.t 186) (.seq (.reg [Qm 188 3,
 Qe 189 188 1,
 Qm 190 189,
 ⟨some 191,.ldl (.t 1) (some 6),some (190,true)⟩,
 ⟨some 192,.call 156 [(.t 191)],some (190,true)⟩,
 Qa 193 190 192,
 Qm 2 193] [2])
 .ret)
 .skip))))))))))))))))))))))))))
 (.seq (.reg [Qb 2 false] [2])
 .ret)))))
noncomputable def FD:Cx:=⟨Tryz.prog,110,Tryz.f110,194,[300008,300010,300012,300022,300034,300044,300048,300059,300063,300073,300079,300085,300089,300097,300107,300113,300117,300127,300133,300137,300149,300159,300163,300171,300183,300191],[],[.t 2]⟩
theorem Ia:Good FD:=⟨Tryz.func110,by kernel_rfl⟩
theorem UE:FD.rs=[.t 2]:=rfl
theorem VB (hl:args.length≤194) (h:Run FD K [.code NK] (Ak args) E σ):AP Tryz.prog 110 args σ K:=
 AT (cx:=FD) (code:=Tryz.f110.body.getD .skip) Ia (by kernel_rfl) Tryz.ntmps110 hl (AW FD _ (Aw NK) _ [] (by kernel_rfl)) h
def ZX:C:=(.seq (.reg [Qb 2 false] [0])
 (.seq (.reg [Qm 3 0,
 Qo 4 (.bin .geq (.t 3) (.c (.d (.int .u8 97)))),
 Qm 5 4,
 ⟨some 6,.mv (.t 0),some (5,true)⟩,
 ⟨some 7,.bin .leq (.t 6) (.c (.d (.int .u8 122))),some (5,true)⟩,
 Qa 8 5 7,
 Qm 2 8] [2])
 .ret))
noncomputable def Ni:Cx:=⟨Tryz.prog,69,Tryz.f69,9,[],[],[.t 2]⟩
theorem Ze:Good Ni:=⟨Tryz.func69,by kernel_rfl⟩
theorem j1:Ni.rs=[.t 2]:=rfl
theorem lV (hl:args.length≤9) (h:Run Ni K [.code ZX] (Ak args) E σ):AP Tryz.prog 69 args σ K:=
 AT (cx:=Ni) (code:=Tryz.f69.body.getD .skip) Ze (by kernel_rfl) Tryz.ntmps69 hl (AW Ni _ (Aw ZX) _ [] (by kernel_rfl)) h
def ZY:C:=(.seq (.reg [Qb 2 false] [0])
 (.seq (.reg [Qm 3 0,
 Qo 4 (.bin .geq (.t 3) (.c (.d (.int .u8 65)))),
 Qm 5 4,
 ⟨some 6,.mv (.t 0),some (5,true)⟩,
 ⟨some 7,.bin .leq (.t 6) (.c (.d (.int .u8 90))),some (5,true)⟩,
 Qa 8 5 7,
 Qm 2 8] [2])
 .ret))
noncomputable def Nj:Cx:=⟨Tryz.prog,70,Tryz.f70,9,[],[],[.t 2]⟩
theorem Zf:Good Nj:=⟨Tryz.func70,by kernel_rfl⟩
theorem j2:Nj.rs=[.t 2]:=rfl
theorem lW (hl:args.length≤9) (h:Run Nj K [.code ZY] (Ak args) E σ):AP Tryz.prog 70 args σ K:=
 AT (cx:=Nj) (code:=Tryz.f70.body.getD .skip) Zf (by kernel_rfl) Tryz.ntmps70 hl (AW Nj _ (Aw ZY) _ [] (by kernel_rfl)) h
def ZW:C:=(.seq (.reg [Qb 2 false] [0])
 (.seq (.reg [Qm 3 0,
 Qo 4 (.bin .geq (.t 3) (.c (.d (.int .u8 48)))),
 Qm 5 4,
 ⟨some 6,.mv (.t 0),some (5,true)⟩,
 ⟨some 7,.bin .leq (.t 6) (.c (.d (.int .u8 57))),some (5,true)⟩,
 Qa 8 5 7,
 Qm 2 8] [2])
 .ret))
noncomputable def Nh:Cx:=⟨Tryz.prog,71,Tryz.f71,9,[],[],[.t 2]⟩
theorem Zd:Good Nh:=⟨Tryz.func71,by kernel_rfl⟩
theorem j0:Nh.rs=[.t 2]:=rfl
theorem lU (hl:args.length≤9) (h:Run Nh K [.code ZW] (Ak args) E σ):AP Tryz.prog 71 args σ K:=
 AT (cx:=Nh) (code:=Tryz.f71.body.getD .skip) Zd (by kernel_rfl) Tryz.ntmps71 hl (AW Nh _ (Aw ZW) _ [] (by kernel_rfl)) h
def YO:C:=(.seq (.seq (.reg [Qm 6 4,
 Qm 7 3,
 Qo 8 (.len (.t 7)),
 Qo 9 (.bin .lss (.t 6) (.t 8))] [0,3,4,9])
 (.cond (.t 9) .skip
 (.exit 0)))
 (.seq (.block 1 (.seq (.reg [Qm 12 3,
 Qm 13 4,
 Qo 14 (.ix (.t 12) (.t 13) 1),
 Qo 15 (.ld (.t 14) none),
 Qm 16 0,
 Qo 17 (.bin .eql (.t 15) (.t 16))] [0,3,4,17])
 (.cond (.t 17) (.seq (.reg [Qb 2 true] [2])
 .ret)
 .skip)))
 (.reg [Qm 10 4,
 Qp 11 10 1,
 Qm 4 11] [0,3,4])))
def V6:C:=(.seq (.reg [Qb 2 false] [0])
 (.seq (.reg [Qo 5 (.bsl 1 28 [(.d (.str [])),(.d (.str [])),(.d (.str [])),(.d (.str [])),(.d (.str [])),(.d (.str [])),(.d (.str [])),(.d (.str [])),(.d (.str [])),(.d (.str [])),(.d (.str [])),(.d (.str [])),(.d (.str [])),(.d (.str [])),(.d (.str [])),(.d (.str [])),(.d (.str [])),(.d (.str [])),(.d (.str [])),(.d (.str [])),(.d (.str [])),(.d (.str [])),(.d (.str [])),(.d (.str [])),(.d (.str [])),(.d (.str [])),(.d (.str [])),(.d (.str []))] [(0,1,(.c (.d (.str [97,114,114,97,121])))),(1,1,(.c (.d (.str [98,111,111,108])))),(2,1,(.c (.d (.str [99,97,116,99,104])))),(3,1,(.c (.d (.str [100,97,116,97])))),(4,1,(.c (.d (.str [101,108,115,101])))),(5,1,(.c (.d (.str [101,110,100])))),(6,1,(.c (.d (.str [102,97,108,115,101])))),(7,1,(.c (.d (.str [102,110])))),(8,1,(.c (.d (.str [102,117,110])))),(9,1,(.c (.d (.str [103,101,116])))),(10,1,(.c (.d (.str [105,102])))),(11,1,(.c (.d (.str [105,110])))),(12,1,(.c (.d (.str [105,110,116])))),(13,1,(.c (.d (.str [108,101,110])))),(14,1,(.c (.d (.str [108,101,116])))),(15,1,(.c (.d (.str [109,97,116,99,104])))),(16,1,(.c (.d (.str [110,101,119])))),(17,1,(.c (.d (.str [114,97,105,115,101])))),(18,1,(.c (.d (.str [114,101,97,100])))),(19,1,(.c (.d (.str [114,101,102])))),(20,1,(.c (.d (.str [115,101,116])))),(21,1,(.c (.d (.str [116,104,101,110])))),(22,1,(.c (.d (.str [116,105,99,107])))),(23,1,(.c (.d (.str [116,114,117,101])))),(24,1,(.c (.d (.str [116,114,121])))),(25,1,(.c (.d (.str [117,110,105,116])))),(26,1,(.c (.d (.str [119,105,116,104])))),(27,1,(.c (.d (.str [119,114,105,116,101]))))]),
 Qm 3 5] [0,3])
 (.seq (.seq (.reg [Qi 4 0] [0,3,4])
 (.block 0 (.loop YO)))
 (.seq (.reg [Qb 2 false] [2])
 .ret))))
noncomputable def Jn:Cx:=⟨Tryz.prog,72,Tryz.f72,18,[],[],[.t 2]⟩
theorem QM:Good Jn:=⟨Tryz.func72,by kernel_rfl⟩
theorem dH:Jn.rs=[.t 2]:=rfl
theorem fU (hl:args.length≤18) (h:Run Jn K [.code V6] (Ak args) E σ):AP Tryz.prog 72 args σ K:=
 AT (cx:=Jn) (code:=Tryz.f72.body.getD .skip) QM (by kernel_rfl) Tryz.ntmps72 hl (AW Jn _ (Aw V6) _ [] (by kernel_rfl)) h
def cJ:C:=(.seq (.seq (.reg [Qm 6 5,
 Qm 7 0,
 Qo 8 (.Lp (.t 7)),
 Qo 9 (.bin .lss (.t 6) (.t 8))] [0,4,5,9])
 (.cond (.t 9) .skip
 (.exit 0)))
 (.seq (.block 1 (.seq (.reg [Qm 12 4,
 Qo 13 (.bin .mul (.t 12) (.c (.d (.int .i64 10)))),
 Qm 14 0,
 Qm 15 5,
 Qo 16 (.Oj (.t 14) (.t 15)),
 Qo 17 (.bin .sub (.t 16) (.c (.d (.int .u8 48)))),
 Qo 18 (.conv .i64 (.t 17)),
 Qo 19 (.bin .add (.t 13) (.t 18)),
 Qm 4 19] [0,4,5])
 (.seq (.reg [Qm 20 4,
 Qo 21 (.bin .gtr (.t 20) (.c (.d (.int .i64 1000000))))] [0,4,5,21])
 (.cond (.t 21) (.seq (.reg [Qi 2 0,
 Qb 3 false] [2,3])
 .ret)
 .skip))))
 (.reg [Qm 10 5,
 Qp 11 10 1,
 Qm 5 11] [0,4,5])))
def ZV:C:=(.seq (.reg [Qi 2 0,
 Qb 3 false] [0])
 (.seq (.reg [Qi 4 0] [0,4])
 (.seq (.seq (.reg [Qi 5 0] [0,4,5])
 (.block 0 (.loop cJ)))
 (.seq (.reg [Qm 22 4,
 Qm 2 22,
 Qb 3 true] [2,3])
 .ret))))
noncomputable def Ng:Cx:=⟨Tryz.prog,73,Tryz.f73,23,[],[],[.t 2,.t 3]⟩
theorem Uw:Good Ng:=⟨Tryz.func73,by kernel_rfl⟩
theorem jZ:Ng.rs=[.t 2,.t 3]:=rfl
theorem lT (hl:args.length≤23) (h:Run Ng K [.code ZV] (Ak args) E σ):AP Tryz.prog 73 args σ K:=
 AT (cx:=Ng) (code:=Tryz.f73.body.getD .skip) Uw (by kernel_rfl) Tryz.ntmps73 hl (AW Ng _ (Aw ZV) _ [] (by kernel_rfl)) h
def V7:C:=(.seq (.seq (.reg [Qm 23 4,
 Qm 24 3,
 Qo 25 (.Lp (.t 24)),
 Qo 26 (.bin .lss (.t 23) (.t 25))] [0,3,4,26])
 (.cond (.t 26) .skip
 (.exit 0)))
 (.seq (.block 1 (.seq (.reg [Qm 29 0,
 Qo 30 (.Oj (.t 29) (.c (.d (.int .i64 0)))),
 Qm 31 3,
 Qm 32 4,
 Qo 33 (.Oj (.t 31) (.t 32)),
 Qo 34 (.bin .eql (.t 30) (.t 33))] [0,3,4,34])
 (.cond (.t 34) (.seq (.reg [Qi 2 1] [2])
 .ret)
 .skip)))
 (.reg [Qm 27 4,
 Qp 28 27 1,
 Qm 4 28] [0,3,4])))
def dT:C:=(.seq (.reg [Qi 2 0] [0])
 (.seq (.seq (.reg [Qm 5 0,
 Qo 6 (.Lp (.t 5)),
 Qo 7 (.bin .geq (.t 6) (.c (.d (.int .i64 2)))),
 Qm 8 7,
 ⟨some 9,.mv (.t 0),some (8,true)⟩,
 ⟨some 10,.ssl (.t 9) none (some (.c (.d (.int .i64 2)))),some (8,true)⟩,
 ⟨some 11,.bin .eql (.t 10) (.c (.d (.str [45,62]))),some (8,true)⟩,
 ⟨some 12,.mv (.t 11),some (8,true)⟩,
 ⟨some 13,.mv (.t 0),some (12,false)⟩,
 ⟨some 14,.ssl (.t 13) none (some (.c (.d (.int .i64 2)))),some (12,false)⟩,
 ⟨some 15,.bin .eql (.t 14) (.c (.d (.str [60,61]))),some (12,false)⟩,
 ⟨some 16,.pick (.t 12) (.c (.d (.bool true))) (.t 15),some (8,true)⟩,
 ⟨some 17,.mv (.t 16),some (8,true)⟩,
 ⟨some 18,.mv (.t 0),some (17,false)⟩,
 ⟨some 19,.ssl (.t 18) none (some (.c (.d (.int .i64 2)))),some (17,false)⟩,
 ⟨some 20,.bin .eql (.t 19) (.c (.d (.str [61,61]))),some (17,false)⟩,
 ⟨some 21,.pick (.t 17) (.c (.d (.bool true))) (.t 20),some (8,true)⟩,
 Qa 22 8 21] [0,22])
 (.cond (.t 22) (.seq (.reg [Qi 2 2] [2])
 .ret)
 .skip))
 (.seq (.reg [Qo 3 (.mv (.c (.d (.str [40,41,44,61,124,43,45,42,47,37,60,59,95]))))] [0,3])
 (.seq (.seq (.reg [Qi 4 0] [0,3,4])
 (.block 0 (.loop V7)))
 (.seq (.reg [Qi 2 0] [2])
 .ret)))))
noncomputable def Mz:Cx:=⟨Tryz.prog,74,Tryz.f74,35,[],[],[.t 2]⟩
theorem PE:Good Mz:=⟨Tryz.func74,by kernel_rfl⟩
theorem nM:Mz.rs=[.t 2]:=rfl
theorem eB (hl:args.length≤35) (h:Run Mz K [.code dT] (Ak args) E σ):AP Tryz.prog 74 args σ K:=
 AT (cx:=Mz) (code:=Tryz.f74.body.getD .skip) PE (by kernel_rfl) Tryz.ntmps74 hl (AW Mz _ (Aw dT) _ [] (by kernel_rfl)) h
def FH:C:=(.seq (.reg [Qb 4 false] [0,1])
 (.seq (.reg [Qm 5 0,
 Qm 6 1,
 Qk 7 178 5 6,
 Qo 8 (.bin .geq (.t 7) (.c (.d (.int .i64 0)))),
 Qm 4 8] [4])
 .ret))
noncomputable def Bc:Cx:=⟨Tryz.prog,149,Tryz.f149,9,[],[],[.t 4]⟩
theorem FI:Good Bc:=⟨Tryz.func149,by kernel_rfl⟩
theorem Ih:Bc.rs=[.t 4]:=rfl
theorem JG (hl:args.length≤9) (h:Run Bc K [.code FH] (Ak args) E σ):AP Tryz.prog 149 args σ K:=
 AT (cx:=Bc) (code:=Tryz.f149.body.getD .skip) FI (by kernel_rfl) Tryz.ntmps149 hl (AW Bc _ (Aw FH) _ [] (by kernel_rfl)) h
def HN:C:=(.seq (.reg [Qo 2 (.box (.t 0) false),
 Qb 3 false] [1,2])
 (.seq (.reg [Qo 4 (.ld (.t 1) none),
 Qo 5 (.ldl (.t 2) (some 2)),
 Qo 6 (.E2 (.t 4) [(.t 5)]),
 Qo 7 (.un .not (.t 6)),
 Qm 3 7] [3])
 .ret))
noncomputable def C8:Cx:=⟨Tryz.prog,150,Tryz.f150,8,[300005],[],[.t 3]⟩
theorem HV:Good C8:=⟨Tryz.func150,by kernel_rfl⟩
theorem Mr:C8.rs=[.t 3]:=rfl
theorem NW (hl:args.length≤8) (h:Run C8 K [.code HN] (Ak args) E σ):AP Tryz.prog 150 args σ K:=
 AT (cx:=C8) (code:=Tryz.f150.body.getD .skip) HV (by kernel_rfl) Tryz.ntmps150 hl (AW C8 _ (Aw HN) _ [] (by kernel_rfl)) h
def Er:C:=(.seq (.reg [Qb 4 false] [0,1])
 (.seq (.reg [Qm 5 0,
 Qm 6 1,
 Qk 7 179 5 6,
 Qo 8 (.bin .geq (.t 7) (.c (.d (.int .i64 0)))),
 Qm 4 8] [4])
 .ret))
noncomputable def B8:Cx:=⟨Tryz.prog,151,Tryz.f151,9,[],[],[.t 4]⟩
theorem Et:Good B8:=⟨Tryz.func151,by kernel_rfl⟩
theorem IT:B8.rs=[.t 4]:=rfl
theorem Ic (hl:args.length≤9) (h:Run B8 K [.code Er] (Ak args) E σ):AP Tryz.prog 151 args σ K:=
 AT (cx:=B8) (code:=Tryz.f151.body.getD .skip) Et (by kernel_rfl) Tryz.ntmps151 hl (AW B8 _ (Aw Er) _ [] (by kernel_rfl)) h
def HA:C:=(.seq (.reg [Qo 2 (.box (.t 0) false),
 Qb 3 false] [1,2])
 (.seq (.reg [Qo 4 (.ld (.t 1) none),
 Qo 5 (.ldl (.t 2) (some 3)),
 Qo 6 (.E2 (.t 4) [(.t 5)]),
 Qo 7 (.un .not (.t 6)),
 Qm 3 7] [3])
 .ret))
noncomputable def CV:Cx:=⟨Tryz.prog,152,Tryz.f152,8,[300005],[],[.t 3]⟩
theorem HD:Good CV:=⟨Tryz.func152,by kernel_rfl⟩
theorem MK:CV.rs=[.t 3]:=rfl
theorem Mh (hl:args.length≤8) (h:Run CV K [.code HA] (Ak args) E σ):AP Tryz.prog 152 args σ K:=
 AT (cx:=CV) (code:=Tryz.f152.body.getD .skip) HD (by kernel_rfl) Tryz.ntmps152 hl (AW CV _ (Aw HA) _ [] (by kernel_rfl)) h
def LQ:C:=(.seq (.reg [Qo 2 (.box (.t 0) false),
 Qb 3 false] [1,2])
 (.seq (.reg [Qo 4 (.ldl (.t 2) (some 3)),
 Qo 5 (.ld (.t 1) none),
 Qp 6 5 1,
 Qk 7 106 4 6,
 Qm 3 7] [3])
 .ret))
noncomputable def E0:Cx:=⟨Tryz.prog,153,Tryz.f153,8,[300004],[],[.t 3]⟩
theorem L5:Good E0:=⟨Tryz.func153,by kernel_rfl⟩
theorem SK:E0.rs=[.t 3]:=rfl
theorem Sv (hl:args.length≤8) (h:Run E0 K [.code LQ] (Ak args) E σ):AP Tryz.prog 153 args σ K:=
 AT (cx:=E0) (code:=Tryz.f153.body.getD .skip) L5 (by kernel_rfl) Tryz.ntmps153 hl (AW E0 _ (Aw LQ) _ [] (by kernel_rfl)) h
def We:C:=(.seq (.seq (.reg [Qm 26 6,
 Qm 27 0,
 Qo 28 (.Lp (.t 27)),
 Qo 29 (.bin .lss (.t 26) (.t 28))] [0,5,6,29])
 (.cond (.t 29) .skip
 (.exit 2)))
 (.seq (.block 3 (.seq (.reg [Qm 32 0,
 Qm 33 6,
 Qo 34 (.Oj (.t 32) (.t 33)),
 Qo 35 (.bin .eql (.t 34) (.c (.d (.int .u8 10))))] [0,5,6,35])
 (.cond (.t 35) (.exit 1)
 .skip)))
 (.reg [Qm 30 6,
 Qp 31 30 1,
 Qm 6 31] [0,5,6])))
def Wf:C:=(.seq (.seq (.reg [Qm 12 6,
 Qm 13 0,
 Qo 14 (.Lp (.t 13)),
 Qo 15 (.bin .lss (.t 12) (.t 14))] [0,5,6,15])
 (.cond (.t 15) .skip
 (.exit 0)))
 (.block 1 (.seq (.seq (.reg [Qm 16 0,
 Qm 17 6,
 Qo 18 (.Oj (.t 16) (.t 17)),
 Qc 19 58 18] [0,5,6,19])
 (.cond (.t 19) (.seq (.reg [Qm 20 6,
 Qp 21 20 1,
 Qm 6 21] [0,5,6])
 (.exit 1))
 .skip))
 (.seq (.seq (.reg [Qm 22 0,
 Qm 23 6,
 Qo 24 (.Oj (.t 22) (.t 23)),
 Qo 25 (.bin .eql (.t 24) (.c (.d (.int .u8 35))))] [0,5,6,25])
 (.cond (.t 25) (.seq (.block 2 (.loop We))
 (.exit 0))
 .skip))
 (.seq (.reg [Qm 37 0,
 Qm 38 6,
 Qk 39 59 37 38,
 Qm 36 39,
 Qo 40 (.ext (.t 36) 0),
 Qo 41 (.ext (.t 36) 1),
 Qo 7 (.al [(.d (.int .i64 0)),(.d (.str [])),(.d (.int .i64 0))] false),
 Qz 7 40 3,
 Qm 8 41] [0,5,6,7,8])
 (.seq (.seq (.reg [Qm 42 8,
 Qo 43 (.bin .neq (.t 42) (.c (.d (.int .i64 0))))] [0,5,6,7,8,43])
 (.cond (.t 43) (.seq (.reg [Qm 44 6,
 Qm 45 8,
 Qo 2 (.mv (.c .AO)),
 Qm 3 44,
 Qm 4 45] [2,3,4])
 .ret)
 .skip))
 (.seq (.reg [Qm 46 5,
 Qo 47 (.ldl (.t 7) (some 3)),
 Qo 48 (.bsl 3 1 [(.d (.int .i64 0)),(.d (.str [])),(.d (.int .i64 0))] [(0,3,(.t 47))]),
 Qo 49 (.app 38 3 32 (.t 46) (.t 48)),
 Qm 5 49] [0,5,6,7])
 (.reg [Qm 50 6,
 Qd 51 7 1,
 Ql 52 51,
 Qo 53 (.Lp (.t 52)),
 Qo 54 (.bin .add (.t 50) (.t 53)),
 Qm 6 54] [0,5,6]))))))))
def U0:C:=(.seq (.reg [Qo 2 (.mv (.c .AO)),
 Qi 3 0,
 Qi 4 0] [0])
 (.scope (.seq (.seq (.reg [Qm 9 0,
 Qo 10 (.Lp (.t 9)),
 Qo 11 (.bin .gtr (.t 10) (.c (.d (.int .i64 16384))))] [0,11])
 (.cond (.t 11) (.seq (.reg [Qo 2 (.mv (.c .AO)),
 Qi 3 0,
 Qi 4 9] [2,3,4])
 .ret)
 .skip))
 (.seq (.reg [Qo 5 (.mv (.c .AO))] [0,5])
 (.seq (.reg [Qi 6 0] [0,5,6])
 (.seq .skip
 (.seq (.block 0 (.loop Wf))
 (.seq (.reg [Qm 55 5,
 Qm 56 0,
 Qo 57 (.Lp (.t 56)),
 Qo 58 (.bld [(.d (.int .i64 0)),(.d (.str [])),(.d (.int .i64 0))] [(0,1,(.c (.d (.int .i64 6)))),(2,1,(.t 57))]),
 Qo 59 (.bsl 3 1 [(.d (.int .i64 0)),(.d (.str [])),(.d (.int .i64 0))] [(0,3,(.t 58))]),
 Qo 60 (.app 38 3 32 (.t 55) (.t 59)),
 Qm 2 60,
 Qi 3 0,
 Qi 4 0] [2,3,4])
 .ret))))))))
noncomputable def I2:Cx:=⟨Tryz.prog,21,Tryz.f21,61,[300047,300052],[],[.t 2,.t 3,.t 4]⟩
theorem CL:Good I2:=⟨Tryz.func21,by kernel_rfl⟩
theorem aQ:I2.rs=[.t 2,.t 3,.t 4]:=rfl
theorem cY (hl:args.length≤61) (h:Run I2 K [.code U0] (Ak args) E σ):AP Tryz.prog 21 args σ K:=
 AT (cx:=I2) (code:=Tryz.f21.body.getD .skip) CL (by kernel_rfl) Tryz.ntmps21 hl (AW I2 _ (Aw U0) _ [] (by kernel_rfl)) h
def MA:C:=(.seq (.reg [Qo 9 (.bin .lss (.t 8) (.t 7))] [0,1,7,8,9])
 (.seq (.cond (.t 9) .skip
 (.exit 0))
 (.seq (.block 1 (.seq (.reg [Qm 10 8,
 Qm 5 10] [0,1,5,7,8])
 (.seq (.reg [Qm 11 1,
 Qm 12 0,
 Qm 13 5,
 Qo 14 (.ix (.t 12) (.t 13) 1),
 Qo 15 (.ld (.t 14) none),
 Qo 16 (.E2 (.t 11) [(.t 15)])] [0,1,5,7,8,16])
 (.cond (.t 16) (.seq (.reg [Qm 17 5,
 Qm 4 17] [4])
 .ret)
 .skip))))
 (.reg [Qp 18 8 1,
 Qm 8 18] [0,1,7,8]))))
def Ho:C:=(.seq (.reg [Qi 4 0] [0,1])
 (.seq (.seq (.reg [Qm 6 0,
 Qo 7 (.len (.t 6)),
 Qi 8 0] [0,1,7,8])
 (.block 0 (.loop MA)))
 (.seq (.reg [Qi 4 (-1)] [4])
 .ret)))
noncomputable def Ci:Cx:=⟨Tryz.prog,154,Tryz.f154,19,[],[],[.t 4]⟩
theorem FM:Good Ci:=⟨Tryz.func154,by kernel_rfl⟩
theorem N9:Ci.rs=[.t 4]:=rfl
theorem Nq (hl:args.length≤19) (h:Run Ci K [.code Ho] (Ak args) E σ):AP Tryz.prog 154 args σ K:=
 AT (cx:=Ci) (code:=Tryz.f154.body.getD .skip) FM (by kernel_rfl) Tryz.ntmps154 hl (AW Ci _ (Aw Ho) _ [] (by kernel_rfl)) h
def NJ:C:=(.seq (.reg [Qo 1 (.box (.t 0) false),
 Qb 2 false] [1])
 (.seq (.reg [Qo 6 (.ldl (.t 1) (some 6)),
 Qo 3 (.al [(.d (.int .i64 0)),(.d (.str [])),(.d (.int .i64 0)),.AO,.AO,.AO] false),
 Qz 3 6 6] [1,3])
 (.seq (.seq (.reg [Qd 7 1 0,
 Ql 8 7] [1,3,8])
 (.block 0 (.seq (.reg [Qe 10 8 1,
 Qm 9 10] [1,3,8,9])
 (.cond (.t 9) (.seq (.reg [Qo 11 (.ldl (.t 1) (some 6)),
 Qc 12 156 11,
 Qm 2 12] [2])
 .ret)
 (.seq (.reg [Qe 14 8 4,
 Qm 13 14] [1,3,13])
 (.cond (.t 13) (.seq (.reg [Qd 15 3 1,
 ⟨none,.st (.t 15) (.c (.d (.str []))) 1,none⟩] [1,3])
 (.seq (.reg [Qd 16 1 1,
 Ql 17 16,
 Qc 18 51 17,
 Qm 19 18,
 ⟨some 20,.ldl (.t 3) (some 6),some (19,true)⟩,
 ⟨some 21,.call 156 [(.t 20)],some (19,true)⟩,
 Qa 22 19 21,
 Qm 2 22] [2])
 .ret))
 .skip))))))
 (.seq (.reg [Qd 23 3 2,
 ⟨none,.st (.t 23) (.c (.d (.int .i64 0))) 1,none⟩] [1,3])
 (.seq (.reg [Qi 4 (-1000000),
 Qi 5 1000000] [1,3,4,5])
 (.seq (.seq (.reg [Qd 24 1 0,
 Ql 25 24] [1,3,4,5,25])
 (.block 1 (.seq (.reg [Qe 27 25 2,
 Qm 26 27] [1,3,4,5,25,26])
 (.cond (.t 26) (.reg [Qi 4 0,
 Qi 5 1] [1,3,4,5])
 (.seq (.reg [Qe 29 25 15,
 Qm 28 29] [1,3,4,5,28])
 (.cond (.t 28) (.reg [Qi 4 (-1000),
 Qi 5 1000] [1,3,4,5])
 .skip))))))
 (.seq (.reg [Qd 30 1 2,
 Ql 31 30,
 Qm 32 4,
 Qm 33 5,
 Qo 34 (.call 160 [(.t 31),(.t 32),(.t 33)]),
 Qm 35 34,
 ⟨some 36,.ldl (.t 3) (some 6),some (35,true)⟩,
 ⟨some 37,.call 156 [(.t 36)],some (35,true)⟩,
 Qa 38 35 37,
 Qm 2 38] [2])
 .ret)))))))
noncomputable def FC:Cx:=⟨Tryz.prog,155,Tryz.f155,39,[300006,300008,300011,300017,300020,300025,300031,300036],[],[.t 2]⟩
theorem Dw:Good FC:=⟨Tryz.func155,by kernel_rfl⟩
theorem UD:FC.rs=[.t 2]:=rfl
theorem VA (hl:args.length≤39) (h:Run FC K [.code NJ] (Ak args) E σ):AP Tryz.prog 155 args σ K:=
 AT (cx:=FC) (code:=Tryz.f155.body.getD .skip) Dw (by kernel_rfl) Tryz.ntmps155 hl (AW FC _ (Aw NJ) _ [] (by kernel_rfl)) h
def S3:C:=(.seq (.reg [Qo 1 (.box (.t 0) false),
 Qb 2 false] [1])
 (.seq (.reg [Qd 3 1 1,
 Ql 4 3,
 Qo 5 (.bin .eql (.t 4) (.c (.d (.str [])))),
 Qm 6 5,
 ⟨some 7,.fld (.t 1) 2,some (6,true)⟩,
 ⟨some 8,.ldl (.t 7) none,some (6,true)⟩,
 ⟨some 9,.bin .eql (.t 8) (.c (.d (.int .i64 0))),some (6,true)⟩,
 Qa 10 6 9,
 Qm 11 10,
 ⟨some 12,.fld (.t 1) 3,some (11,true)⟩,
 ⟨some 13,.ldl (.t 12) none,some (11,true)⟩,
 ⟨some 14,.len (.t 13),some (11,true)⟩,
 ⟨some 15,.bin .eql (.t 14) (.c (.d (.int .i64 0))),some (11,true)⟩,
 Qa 16 11 15,
 Qm 17 16,
 ⟨some 18,.fld (.t 1) 5,some (17,true)⟩,
 ⟨some 19,.ldl (.t 18) none,some (17,true)⟩,
 ⟨some 20,.len (.t 19),some (17,true)⟩,
 ⟨some 21,.bin .eql (.t 20) (.c (.d (.int .i64 0))),some (17,true)⟩,
 Qa 22 17 21,
 Qm 2 22] [2])
 .ret))
noncomputable def Hh:Cx:=⟨Tryz.prog,156,Tryz.f156,23,[300004,300008,300013,300019],[],[.t 2]⟩
theorem Sa:Good Hh:=⟨Tryz.func156,by kernel_rfl⟩
theorem Yb:Hh.rs=[.t 2]:=rfl
theorem Zo (hl:args.length≤23) (h:Run Hh K [.code S3] (Ak args) E σ):AP Tryz.prog 156 args σ K:=
 AT (cx:=Hh) (code:=Tryz.f156.body.getD .skip) Sa (by kernel_rfl) Tryz.ntmps156 hl (AW Hh _ (Aw S3) _ [] (by kernel_rfl)) h
def RU:C:=(.seq (.reg [Qb 2 false] [0])
 (.seq (.reg [Qm 3 0,
 Qo 4 (.bin .eql (.t 3) (.c (.d (.str [])))),
 Qm 5 4,
 ⟨some 6,.mv (.t 0),some (5,false)⟩,
 ⟨some 7,.call 51 [(.t 6)],some (5,false)⟩,
 Qr 8 5 7,
 Qm 2 8] [2])
 .ret))
noncomputable def Gp:Cx:=⟨Tryz.prog,157,Tryz.f157,9,[],[],[.t 2]⟩
theorem ME:Good Gp:=⟨Tryz.func157,by kernel_rfl⟩
theorem XX:Gp.rs=[.t 2]:=rfl
theorem YV (hl:args.length≤9) (h:Run Gp K [.code RU] (Ak args) E σ):AP Tryz.prog 157 args σ K:=
 AT (cx:=Gp) (code:=Tryz.f157.body.getD .skip) ME (by kernel_rfl) Tryz.ntmps157 hl (AW Gp _ (Aw RU) _ [] (by kernel_rfl)) h
def Kz:C:=(.seq (.reg [Qo 3 (.box (.t 1) true),
 Qb 4 false] [0,3])
 (.seq (.reg [Qm 5 0,
 Qo 6 (.mkf 181 [] [(.t 3)]),
 Qk 7 180 5 6,
 Qo 8 (.un .not (.t 7)),
 Qm 4 8] [4])
 .ret))
noncomputable def EL:Cx:=⟨Tryz.prog,158,Tryz.f158,9,[3],[],[.t 4]⟩
theorem LY:Good EL:=⟨Tryz.func158,by kernel_rfl⟩
theorem Rw:EL.rs=[.t 4]:=rfl
theorem Sg (hl:args.length≤9) (h:Run EL K [.code Kz] (Ak args) E σ):AP Tryz.prog 158 args σ K:=
 AT (cx:=EL) (code:=Tryz.f158.body.getD .skip) LY (by kernel_rfl) Tryz.ntmps158 hl (AW EL _ (Aw Kz) _ [] (by kernel_rfl)) h
def OM:C:=(.seq (.reg [Qo 1 (.box (.t 0) false),
 Qb 2 false] [1])
 (.seq (.reg [Qd 3 1 0,
 Ql 4 3,
 Qc 5 101 4,
 Qm 6 5,
 ⟨some 7,.fld (.t 1) 1,some (6,true)⟩,
 ⟨some 8,.ldl (.t 7) none,some (6,true)⟩,
 ⟨some 9,.len (.t 8),some (6,true)⟩,
 ⟨some 10,.bin .leq (.t 9) (.c (.d (.int .i64 6))),some (6,true)⟩,
 Qa 11 6 10,
 Qm 12 11,
 ⟨some 13,.fld (.t 1) 1,some (12,true)⟩,
 ⟨some 14,.ldl (.t 13) none,some (12,true)⟩,
 ⟨some 15,.call 52 [(.t 14),(.c (.fn 157 [] []))],some (12,true)⟩,
 Qa 16 12 15,
 Qm 2 16] [2])
 .ret))
noncomputable def F1:Cx:=⟨Tryz.prog,159,Tryz.f159,17,[300004,300008,300014],[],[.t 2]⟩
theorem HH:Good F1:=⟨Tryz.func159,by kernel_rfl⟩
theorem VQ:F1.rs=[.t 2]:=rfl
theorem Vp (hl:args.length≤17) (h:Run F1 K [.code OM] (Ak args) E σ):AP Tryz.prog 159 args σ K:=
 AT (cx:=F1) (code:=Tryz.f159.body.getD .skip) HH (by kernel_rfl) Tryz.ntmps159 hl (AW F1 _ (Aw OM) _ [] (by kernel_rfl)) h
def Ow:C:=(.seq (.reg [Qb 6 false] [0,1,2])
 (.seq (.reg [Qm 7 1,
 Qm 8 0,
 Qo 9 (.bin .leq (.t 7) (.t 8)),
 Qm 10 9,
 ⟨some 11,.mv (.t 0),some (10,true)⟩,
 ⟨some 12,.mv (.t 2),some (10,true)⟩,
 ⟨some 13,.bin .leq (.t 11) (.t 12),some (10,true)⟩,
 Qa 14 10 13,
 Qm 6 14] [6])
 .ret))
noncomputable def GG:Cx:=⟨Tryz.prog,160,Tryz.f160,15,[],[],[.t 6]⟩
theorem PG:Good GG:=⟨Tryz.func160,by kernel_rfl⟩
theorem WV:GG.rs=[.t 6]:=rfl
theorem Wu (hl:args.length≤15) (h:Run GG K [.code Ow] (Ak args) E σ):AP Tryz.prog 160 args σ K:=
 AT (cx:=GG) (code:=Tryz.f160.body.getD .skip) PG (by kernel_rfl) Tryz.ntmps160 hl (AW GG _ (Aw Ow) _ [] (by kernel_rfl)) h
def NH:C:=(.seq (.reg [Qo 2 (.mv (.c (.d (.str [])))),
 Qi 3 0] [0])
 (.seq (.seq (.reg [Qm 4 0] [4])
 (.block 0 (.seq (.reg [Qe 6 4 1,
 Qm 5 6] [4,5])
 (.cond (.t 5) (.seq (.reg [Qo 2 (.mv (.c (.d (.str [110,101,119])))),
 Qi 3 2] [2,3])
 .ret)
 (.seq (.reg [Qe 8 4 2,
 Qm 7 8] [4,7])
 (.cond (.t 7) (.seq (.reg [Qo 2 (.mv (.c (.d (.str [103,101,116])))),
 Qi 3 2] [2,3])
 .ret)
 (.seq (.reg [Qe 10 4 3,
 Qm 9 10] [4,9])
 (.cond (.t 9) (.seq (.reg [Qo 2 (.mv (.c (.d (.str [115,101,116])))),
 Qi 3 3] [2,3])
 .ret)
 (.seq (.reg [Qe 12 4 4,
 Qm 11 12] [4,11])
 (.cond (.t 11) (.seq (.reg [Qo 2 (.mv (.c (.d (.str [108,101,110])))),
 Qi 3 1] [2,3])
 .ret)
 (.seq (.reg [Qe 14 4 5,
 Qm 13 14] [4,13])
 (.cond (.t 13) (.seq (.reg [Qo 2 (.mv (.c (.d (.str [114,101,102])))),
 Qi 3 1] [2,3])
 .ret)
 (.seq (.reg [Qe 16 4 6,
 Qm 15 16] [4,15])
 (.cond (.t 15) (.seq (.reg [Qo 2 (.mv (.c (.d (.str [114,101,97,100])))),
 Qi 3 1] [2,3])
 .ret)
 (.seq (.reg [Qe 18 4 7,
 Qm 17 18] [17])
 (.cond (.t 17) (.seq (.reg [Qo 2 (.mv (.c (.d (.str [119,114,105,116,101])))),
 Qi 3 2] [2,3])
 .ret)
 .skip))))))))))))))))
 (.seq (.reg [Qo 2 (.mv (.c (.d (.str [])))),
 Qi 3 0] [2,3])
 .ret)))
noncomputable def FA:Cx:=⟨Tryz.prog,147,Tryz.f147,19,[],[],[.t 2,.t 3]⟩
theorem NS:Good FA:=⟨Tryz.func147,by kernel_rfl⟩
theorem UB:FA.rs=[.t 2,.t 3]:=rfl
theorem Uy (hl:args.length≤19) (h:Run FA K [.code NH] (Ak args) E σ):AP Tryz.prog 147 args σ K:=
 AT (cx:=FA) (code:=Tryz.f147.body.getD .skip) NS (by kernel_rfl) Tryz.ntmps147 hl (AW FA _ (Aw NH) _ [] (by kernel_rfl)) h
def JE:C:=(.seq (.reg [Qo 9 (.bin .lss (.t 8) (.t 7))] [0,1,7,8,9])
 (.seq (.cond (.t 9) .skip
 (.exit 0))
 (.seq (.block 1 (.seq (.reg [Qm 10 8,
 Qm 5 10] [0,1,5,7,8])
 (.seq (.reg [Qm 11 1,
 Qm 12 0,
 Qm 13 5,
 Qo 14 (.ix (.t 12) (.t 13) 2),
 Qo 15 (.ld (.t 14) (some 2)),
 Qo 16 (.E2 (.t 11) [(.t 15)])] [0,1,5,7,8,16])
 (.cond (.t 16) (.seq (.reg [Qm 17 5,
 Qm 4 17] [4])
 .ret)
 .skip))))
 (.reg [Qp 18 8 1,
 Qm 8 18] [0,1,7,8]))))
def Fi:C:=(.seq (.reg [Qi 4 0] [0,1])
 (.seq (.seq (.reg [Qm 6 0,
 Qo 7 (.len (.t 6)),
 Qi 8 0] [0,1,7,8])
 (.block 0 (.loop JE)))
 (.seq (.reg [Qi 4 (-1)] [4])
 .ret)))
noncomputable def Bs:Cx:=⟨Tryz.prog,178,Tryz.f178,19,[],[],[.t 4]⟩
theorem Du:Good Bs:=⟨Tryz.func178,by kernel_rfl⟩
theorem Jv:Bs.rs=[.t 4]:=rfl
theorem Kc (hl:args.length≤19) (h:Run Bs K [.code Fi] (Ak args) E σ):AP Tryz.prog 178 args σ K:=
 AT (cx:=Bs) (code:=Tryz.f178.body.getD .skip) Du (by kernel_rfl) Tryz.ntmps178 hl (AW Bs _ (Aw Fi) _ [] (by kernel_rfl)) h
def I8:C:=(.seq (.reg [Qo 9 (.bin .lss (.t 8) (.t 7))] [0,1,7,8,9])
 (.seq (.cond (.t 9) .skip
 (.exit 0))
 (.seq (.block 1 (.seq (.reg [Qm 10 8,
 Qm 5 10] [0,1,5,7,8])
 (.seq (.reg [Qm 11 1,
 Qm 12 0,
 Qm 13 5,
 Qo 14 (.ix (.t 12) (.t 13) 3),
 Qo 15 (.ld (.t 14) (some 3)),
 Qo 16 (.E2 (.t 11) [(.t 15)])] [0,1,5,7,8,16])
 (.cond (.t 16) (.seq (.reg [Qm 17 5,
 Qm 4 17] [4])
 .ret)
 .skip))))
 (.reg [Qp 18 8 1,
 Qm 8 18] [0,1,7,8]))))
def F9:C:=(.seq (.reg [Qi 4 0] [0,1])
 (.seq (.seq (.reg [Qm 6 0,
 Qo 7 (.len (.t 6)),
 Qi 8 0] [0,1,7,8])
 (.block 0 (.loop I8)))
 (.seq (.reg [Qi 4 (-1)] [4])
 .ret)))
noncomputable def Bl:Cx:=⟨Tryz.prog,179,Tryz.f179,19,[],[],[.t 4]⟩
theorem Db:Good Bl:=⟨Tryz.func179,by kernel_rfl⟩
theorem Jj:Bl.rs=[.t 4]:=rfl
theorem Js (hl:args.length≤19) (h:Run Bl K [.code F9] (Ak args) E σ):AP Tryz.prog 179 args σ K:=
 AT (cx:=Bl) (code:=Tryz.f179.body.getD .skip) Db (by kernel_rfl) Tryz.ntmps179 hl (AW Bl _ (Aw F9) _ [] (by kernel_rfl)) h
def U1:C:=(.seq (.reg [Qb 2 false] [0])
 (.seq (.reg [Qm 3 0,
 Qo 4 (.bin .eql (.t 3) (.c (.d (.int .u8 9)))),
 Qm 5 4,
 ⟨some 6,.mv (.t 0),some (5,false)⟩,
 ⟨some 7,.bin .eql (.t 6) (.c (.d (.int .u8 10))),some (5,false)⟩,
 Qr 8 5 7,
 Qm 9 8,
 ⟨some 10,.mv (.t 0),some (9,false)⟩,
 ⟨some 11,.bin .eql (.t 10) (.c (.d (.int .u8 13))),some (9,false)⟩,
 Qr 12 9 11,
 Qm 13 12,
 ⟨some 14,.mv (.t 0),some (13,false)⟩,
 ⟨some 15,.bin .eql (.t 14) (.c (.d (.int .u8 32))),some (13,false)⟩,
 Qr 16 13 15,
 Qm 2 16] [2])
 .ret))
noncomputable def I3:Cx:=⟨Tryz.prog,58,Tryz.f58,17,[],[],[.t 2]⟩
theorem Ua:Good I3:=⟨Tryz.func58,by kernel_rfl⟩
theorem aR:I3.rs=[.t 2]:=rfl
theorem cZ (hl:args.length≤17) (h:Run I3 K [.code U1] (Ak args) E σ):AP Tryz.prog 58 args σ K:=
 AT (cx:=I3) (code:=Tryz.f58.body.getD .skip) Ua (by kernel_rfl) Tryz.ntmps58 hl (AW I3 _ (Aw U1) _ [] (by kernel_rfl)) h
def Vc:C:=(.seq (.reg [Qo 4 (.al [(.d (.int .i64 0)),(.d (.str [])),(.d (.int .i64 0))] false),
 Qi 5 0] [0,1,4])
 (.seq (.reg [Qm 8 1,
 Qo 9 (.bld [(.d (.int .i64 0)),(.d (.str [])),(.d (.int .i64 0))] [(2,1,(.t 8))]),
 Qo 6 (.al [(.d (.int .i64 0)),(.d (.str [])),(.d (.int .i64 0))] false),
 Qz 6 9 3] [0,1,4,6])
 (.seq (.seq (.reg [Qm 10 0,
 Qm 11 1,
 Qo 12 (.Oj (.t 10) (.t 11)),
 Qm 7 12] [0,1,4,6,7])
 (.block 0 (.seq (.reg [Qm 24 7,
 Qc 25 112 24,
 Qm 26 25,
 ⟨some 27,.mv (.t 7),some (26,false)⟩,
 ⟨some 28,.call 113 [(.t 27)],some (26,false)⟩,
 Qr 29 26 28,
 Qm 23 29] [0,1,4,6,7,23])
 (.cond (.t 23) (.seq (.reg [Qm 30 0,
 Qm 31 1,
 Qo 32 (.ssl (.t 30) (some (.t 31)) none),
 Qo 33 (.call 114 [(.t 32),(.c (.fn 115 [] []))]),
 Qd 34 6 1,
 Qz 34 33 1] [4,6,7])
 (.block 1 (.seq (.reg [Qd 37 6 1,
 Ql 38 37,
 Qo 39 (.Lp (.t 38)),
 Qo 40 (.bin .gtr (.t 39) (.c (.d (.int .i64 24)))),
 Qm 36 40] [4,6,7,36])
 (.cond (.t 36) (.seq (.reg [Qo 41 (.bld [(.d (.int .i64 0)),(.d (.str [])),(.d (.int .i64 0))] []),
 Qz 4 41 3,
 Qi 5 9] [4,5])
 .ret)
 (.seq (.reg [Qm 43 7,
 Qc 44 113 43,
 Qm 42 44] [4,6,42])
 (.cond (.t 42) (.reg [Qd 45 6 0,
 ⟨none,.st (.t 45) (.c (.d (.int .i64 2))) 1,none⟩] [4,6])
 (.seq (.reg [Qd 47 6 1,
 Ql 48 47,
 Qc 49 116 48,
 Qm 46 49] [4,6,46])
 (.cond (.t 46) (.reg [Qd 50 6 0,
 ⟨none,.st (.t 50) (.c (.d (.int .i64 4))) 1,none⟩] [4,6])
 (.reg [Qd 35 6 0,
 ⟨none,.st (.t 35) (.c (.d (.int .i64 1))) 1,none⟩] [4,6])))))))))
 (.seq (.reg [Qm 52 7,
 Qc 53 117 52,
 Qm 51 53] [0,1,4,6,7,51])
 (.cond (.t 51) (.seq (.reg [Qd 54 6 0,
 ⟨none,.st (.t 54) (.c (.d (.int .i64 3))) 1,none⟩] [0,1,4,6,7])
 (.seq (.reg [Qm 55 0,
 Qm 56 1,
 Qo 57 (.ssl (.t 55) (some (.t 56)) none),
 Qo 58 (.call 114 [(.t 57),(.c (.fn 117 [] []))]),
 Qd 59 6 1,
 Qz 59 58 1] [4,6,7])
 (.seq (.seq (.reg [Qm 60 7,
 Qo 61 (.bin .eql (.t 60) (.c (.d (.int .u8 48)))),
 Qm 62 61,
 ⟨some 63,.fld (.t 6) 1,some (62,true)⟩,
 ⟨some 64,.ldl (.t 63) none,some (62,true)⟩,
 ⟨some 65,.Lp (.t 64),some (62,true)⟩,
 ⟨some 66,.bin .gtr (.t 65) (.c (.d (.int .i64 1))),some (62,true)⟩,
 Qa 67 62 66] [4,6,67])
 (.cond (.t 67) (.seq (.reg [Qo 68 (.bld [(.d (.int .i64 0)),(.d (.str [])),(.d (.int .i64 0))] []),
 Qz 4 68 3,
 Qi 5 2] [4,5])
 .ret)
 .skip))
 (.seq (.reg [Qd 69 6 1,
 Ql 70 69,
 Qc 71 118 70,
 Qo 72 (.un .not (.t 71))] [4,6,72])
 (.cond (.t 72) (.seq (.reg [Qo 73 (.bld [(.d (.int .i64 0)),(.d (.str [])),(.d (.int .i64 0))] []),
 Qz 4 73 3,
 Qi 5 9] [4,5])
 .ret)
 .skip)))))
 (.seq (.reg [Qd 13 6 0,
 ⟨none,.st (.t 13) (.c (.d (.int .i64 5))) 1,none⟩] [0,1,4,6])
 (.seq (.reg [Qm 14 0,
 Qm 15 1,
 Qo 16 (.ssl (.t 14) (some (.t 15)) none),
 Qc 17 119 16,
 Qd 18 6 1,
 Qz 18 17 1] [4,6])
 (.seq (.reg [Qd 19 6 1,
 Ql 20 19,
 Qo 21 (.bin .eql (.t 20) (.c (.d (.str []))))] [4,6,21])
 (.cond (.t 21) (.seq (.reg [Qo 22 (.bld [(.d (.int .i64 0)),(.d (.str [])),(.d (.int .i64 0))] []),
 Qz 4 22 3,
 Qi 5 2] [4,5])
 .ret)
 .skip))))))))))
 (.seq (.reg [Qo 74 (.ldl (.t 6) (some 3)),
 Qz 4 74 3,
 Qi 5 0] [4,5])
 .ret))))
noncomputable def Jo:Cx:=⟨Tryz.prog,59,Tryz.f59,75,[300038,300048,300064,300070,300020,300074],[],[.c 4 (some 3),.t 5]⟩
theorem Vl:Good Jo:=⟨Tryz.func59,by kernel_rfl⟩
theorem dI:Jo.rs=[.c 4 (some 3),.t 5]:=rfl
theorem fV (hl:args.length≤75) (h:Run Jo K [.code Vc] (Ak args) E σ):AP Tryz.prog 59 args σ K:=
 AT (cx:=Jo) (code:=Tryz.f59.body.getD .skip) Vl (by kernel_rfl) Tryz.ntmps59 hl (AW Jo _ (Aw Vc) _ [] (by kernel_rfl)) h
def GM:C:=(.seq (.reg [Qb 4 false] [0,1])
 (.seq (.reg [Qm 5 0,
 Qm 6 1,
 Qk 7 195 5 6,
 Qo 8 (.bin .geq (.t 7) (.c (.d (.int .i64 0)))),
 Qm 4 8] [4])
 .ret))
noncomputable def Bz:Cx:=⟨Tryz.prog,180,Tryz.f180,9,[],[],[.t 4]⟩
theorem GP:Good Bz:=⟨Tryz.func180,by kernel_rfl⟩
theorem Kk:Bz.rs=[.t 4]:=rfl
theorem L7 (hl:args.length≤9) (h:Run Bz K [.code GM] (Ak args) E σ):AP Tryz.prog 180 args σ K:=
 AT (cx:=Bz) (code:=Tryz.f180.body.getD .skip) GP (by kernel_rfl) Tryz.ntmps180 hl (AW Bz _ (Aw GM) _ [] (by kernel_rfl)) h
def JK:C:=(.seq (.reg [Qo 2 (.box (.t 0) false),
 Qb 3 false] [1,2])
 (.seq (.reg [Qo 4 (.ld (.t 1) none),
 Qo 5 (.ldl (.t 2) (some 8)),
 Qo 6 (.E2 (.t 4) [(.t 5)]),
 Qo 7 (.un .not (.t 6)),
 Qm 3 7] [3])
 .ret))
noncomputable def DW:Cx:=⟨Tryz.prog,181,Tryz.f181,8,[300005],[],[.t 3]⟩
theorem J3:Good DW:=⟨Tryz.func181,by kernel_rfl⟩
theorem P3:DW.rs=[.t 3]:=rfl
theorem QO (hl:args.length≤8) (h:Run DW K [.code JK] (Ak args) E σ):AP Tryz.prog 181 args σ K:=
 AT (cx:=DW) (code:=Tryz.f181.body.getD .skip) J3 (by kernel_rfl) Tryz.ntmps181 hl (AW DW _ (Aw JK) _ [] (by kernel_rfl)) h
def U3:C:=(.seq (.reg [Qb 2 false] [0])
 (.seq (.reg [Qm 3 0,
 Qo 4 (.bin .geq (.t 3) (.c (.d (.int .u8 97)))),
 Qm 5 4,
 ⟨some 6,.mv (.t 0),some (5,true)⟩,
 ⟨some 7,.bin .leq (.t 6) (.c (.d (.int .u8 122))),some (5,true)⟩,
 Qa 8 5 7,
 Qm 2 8] [2])
 .ret))
noncomputable def I5:Cx:=⟨Tryz.prog,112,Tryz.f112,9,[],[],[.t 2]⟩
theorem Uc:Good I5:=⟨Tryz.func112,by kernel_rfl⟩
theorem aT:I5.rs=[.t 2]:=rfl
theorem dA (hl:args.length≤9) (h:Run I5 K [.code U3] (Ak args) E σ):AP Tryz.prog 112 args σ K:=
 AT (cx:=I5) (code:=Tryz.f112.body.getD .skip) Uc (by kernel_rfl) Tryz.ntmps112 hl (AW I5 _ (Aw U3) _ [] (by kernel_rfl)) h
def U5:C:=(.seq (.reg [Qb 2 false] [0])
 (.seq (.reg [Qm 3 0,
 Qo 4 (.bin .geq (.t 3) (.c (.d (.int .u8 65)))),
 Qm 5 4,
 ⟨some 6,.mv (.t 0),some (5,true)⟩,
 ⟨some 7,.bin .leq (.t 6) (.c (.d (.int .u8 90))),some (5,true)⟩,
 Qa 8 5 7,
 Qm 2 8] [2])
 .ret))
noncomputable def I7:Cx:=⟨Tryz.prog,113,Tryz.f113,9,[],[],[.t 2]⟩
theorem Ud:Good I7:=⟨Tryz.func113,by kernel_rfl⟩
theorem aV:I7.rs=[.t 2]:=rfl
theorem dC (hl:args.length≤9) (h:Run I7 K [.code U5] (Ak args) E σ):AP Tryz.prog 113 args σ K:=
 AT (cx:=I7) (code:=Tryz.f113.body.getD .skip) Ud (by kernel_rfl) Tryz.ntmps113 hl (AW I7 _ (Aw U5) _ [] (by kernel_rfl)) h
def Vb:C:=(.seq (.seq (.reg [Qm 6 5,
 Qm 7 0,
 Qo 8 (.Lp (.t 7)),
 Qo 9 (.bin .lss (.t 6) (.t 8)),
 Qm 10 9,
 ⟨some 11,.mv (.t 1),some (10,true)⟩,
 ⟨some 12,.mv (.t 0),some (10,true)⟩,
 ⟨some 13,.mv (.t 5),some (10,true)⟩,
 ⟨some 14,.Oj (.t 12) (.t 13),some (10,true)⟩,
 ⟨some 15,.E2 (.t 11) [(.t 14)],some (10,true)⟩,
 Qa 16 10 15] [0,1,5,16])
 (.cond (.t 16) .skip
 (.exit 0)))
 (.block 1 (.reg [Qm 17 5,
 Qp 18 17 1,
 Qm 5 18] [0,1,5])))
def S4:C:=(.seq (.reg [Qo 4 (.mv (.c (.d (.str []))))] [0,1])
 (.seq (.reg [Qi 5 0] [0,1,5])
 (.seq (.block 0 (.loop Vb))
 (.seq (.reg [Qm 19 0,
 Qm 20 5,
 Qo 21 (.ssl (.t 19) none (some (.t 20))),
 Qm 4 21] [4])
 .ret))))
noncomputable def Hi:Cx:=⟨Tryz.prog,114,Tryz.f114,22,[],[],[.t 4]⟩
theorem NU:Good Hi:=⟨Tryz.func114,by kernel_rfl⟩
theorem Yc:Hi.rs=[.t 4]:=rfl
theorem Zp (hl:args.length≤22) (h:Run Hi K [.code S4] (Ak args) E σ):AP Tryz.prog 114 args σ K:=
 AT (cx:=Hi) (code:=Tryz.f114.body.getD .skip) NU (by kernel_rfl) Tryz.ntmps114 hl (AW Hi _ (Aw S4) _ [] (by kernel_rfl)) h
def S5:C:=(.seq (.reg [Qb 2 false] [0])
 (.seq (.reg [Qm 3 0,
 Qc 4 112 3,
 Qm 5 4,
 ⟨some 6,.mv (.t 0),some (5,false)⟩,
 ⟨some 7,.call 113 [(.t 6)],some (5,false)⟩,
 Qr 8 5 7,
 Qm 9 8,
 ⟨some 10,.mv (.t 0),some (9,false)⟩,
 ⟨some 11,.call 117 [(.t 10)],some (9,false)⟩,
 Qr 12 9 11,
 Qm 13 12,
 ⟨some 14,.mv (.t 0),some (13,false)⟩,
 ⟨some 15,.bin .eql (.t 14) (.c (.d (.int .u8 95))),some (13,false)⟩,
 Qr 16 13 15,
 Qm 2 16] [2])
 .ret))
noncomputable def Hj:Cx:=⟨Tryz.prog,115,Tryz.f115,17,[],[],[.t 2]⟩
theorem Sb:Good Hj:=⟨Tryz.func115,by kernel_rfl⟩
theorem Yd:Hj.rs=[.t 2]:=rfl
theorem Zq (hl:args.length≤17) (h:Run Hj K [.code S5] (Ak args) E σ):AP Tryz.prog 115 args σ K:=
 AT (cx:=Hj) (code:=Tryz.f115.body.getD .skip) Sb (by kernel_rfl) Tryz.ntmps115 hl (AW Hj _ (Aw S5) _ [] (by kernel_rfl)) h
def RX:C:=(.seq (.reg [Qb 2 false] [0])
 (.seq (.seq (.reg [Qm 3 0] [3])
 (.block 0 (.seq (.seq (.reg [Qo 5 (.bin .eql (.t 3) (.c (.d (.str [97,114,114,97,121])))),
 Qm 4 5] [3,4])
 (.cond (.t 4) .skip
 (.seq (.reg [Qo 6 (.bin .eql (.t 3) (.c (.d (.str [98,111,111,108])))),
 Qm 4 6] [3,4])
 (.cond (.t 4) .skip
 (.seq (.reg [Qo 7 (.bin .eql (.t 3) (.c (.d (.str [99,97,116,99,104])))),
 Qm 4 7] [3,4])
 (.cond (.t 4) .skip
 (.seq (.reg [Qo 8 (.bin .eql (.t 3) (.c (.d (.str [100,97,116,97])))),
 Qm 4 8] [3,4])
 (.cond (.t 4) .skip
 (.seq (.reg [Qo 9 (.bin .eql (.t 3) (.c (.d (.str [101,108,115,101])))),
 Qm 4 9] [3,4])
 (.cond (.t 4) .skip
 (.seq (.reg [Qo 10 (.bin .eql (.t 3) (.c (.d (.str [101,110,100])))),
 Qm 4 10] [3,4])
 (.cond (.t 4) .skip
 (.seq (.reg [Qo 11 (.bin .eql (.t 3) (.c (.d (.str [102,97,108,115,101])))),
 Qm 4 11] [3,4])
 (.cond (.t 4) .skip
 (.seq (.reg [Qo 12 (.bin .eql (.t 3) (.c (.d (.str [102,110])))),
 Qm 4 12] [3,4])
 (.cond (.t 4) .skip
 (.seq (.reg [Qo 13 (.bin .eql (.t 3) (.c (.d (.str [102,117,110])))),
 Qm 4 13] [3,4])
 (.cond (.t 4) .skip
 (.seq (.reg [Qo 14 (.bin .eql (.t 3) (.c (.d (.str [103,101,116])))),
 Qm 4 14] [3,4])
 (.cond (.t 4) .skip
 (.seq (.reg [Qo 15 (.bin .eql (.t 3) (.c (.d (.str [105,102])))),
 Qm 4 15] [3,4])
 (.cond (.t 4) .skip
 (.seq (.reg [Qo 16 (.bin .eql (.t 3) (.c (.d (.str [105,110])))),
 Qm 4 16] [3,4])
 (.cond (.t 4) .skip
 (.seq (.reg [Qo 17 (.bin .eql (.t 3) (.c (.d (.str [105,110,116])))),
 Qm 4 17] [3,4])
 (.cond (.t 4) .skip
 (.seq (.reg [Qo 18 (.bin .eql (.t 3) (.c (.d (.str [108,101,110])))),
 Qm 4 18] [3,4])
 (.cond (.t 4) .skip
 (.seq (.reg [Qo 19 (.bin .eql (.t 3) (.c (.d (.str [108,101,116])))),
 Qm 4 19] [3,4])
 (.cond (.t 4) .skip
 (.seq (.reg [Qo 20 (.bin .eql (.t 3) (.c (.d (.str [109,97,116,99,104])))),
 Qm 4 20] [3,4])
 (.cond (.t 4) .skip
 (.seq (.reg [Qo 21 (.bin .eql (.t 3) (.c (.d (.str [110,101,119])))),
 Qm 4 21] [3,4])
 (.cond (.t 4) .skip
 (.seq (.reg [Qo 22 (.bin .eql (.t 3) (.c (.d (.str [114,97,105,115,101])))),
 Qm 4 22] [3,4])
 (.cond (.t 4) .skip
 (.seq (.reg [Qo 23 (.bin .eql (.t 3) (.c (.d (.str [114,101,97,100])))),
 Qm 4 23] [3,4])
 (.cond (.t 4) .skip
 (.seq (.reg [Qo 24 (.bin .eql (.t 3) (.c (.d (.str [114,101,102])))),
 Qm 4 24] [3,4])
 (.cond (.t 4) .skip
 (.seq (.reg [Qo 25 (.bin .eql (.t 3) (.c (.d (.str [115,101,116])))),
 Qm 4 25] [3,4])
 (.cond (.t 4) .skip
 (.seq (.reg [Qo 26 (.bin .eql (.t 3) (.c (.d (.str [116,104,101,110])))),
 Qm 4 26] [3,4])
 (.cond (.t 4) .skip
 (.seq (.reg [Qo 27 (.bin .eql (.t 3) (.c (.d (.str [116,105,99,107])))),
 Qm 4 27] [3,4])
 (.cond (.t 4) .skip
 (.seq (.reg [Qo 28 (.bin .eql (.t 3) (.c (.d (.str [116,114,117,101])))),
 Qm 4 28] [3,4])
 (.cond (.t 4) .skip
 (.seq (.reg [Qo 29 (.bin .eql (.t 3) (.c (.d (.str [116,114,121])))),
 Qm 4 29] [3,4])
 (.cond (.t 4) .skip
 (.seq (.reg [Qo 30 (.bin .eql (.t 3) (.c (.d (.str [117,110,105,116])))),
 Qm 4 30] [3,4])
 (.cond (.t 4) .skip
 (.seq (.reg [Qo 31 (.bin .eql (.t 3) (.c (.d (.str [119,105,116,104])))),
 Qm 4 31] [3,4])
 (.cond (.t 4) .skip
 (.reg [Qo 32 (.bin .eql (.t 3) (.c (.d (.str [119,114,105,116,101])))),
 Qm 4 32] [4])))))))))))))))))))))))))))))))))))))))))))))))))))))))
 (.cond (.t 4) (.seq (.reg [Qb 2 true] [2])
 .ret)
 .skip))))
 (.seq (.reg [Qb 2 false] [2])
 .ret)))
noncomputable def Gr:Cx:=⟨Tryz.prog,116,Tryz.f116,33,[],[],[.t 2]⟩
theorem R3:Good Gr:=⟨Tryz.func116,by kernel_rfl⟩
theorem XZ:Gr.rs=[.t 2]:=rfl
theorem YX (hl:args.length≤33) (h:Run Gr K [.code RX] (Ak args) E σ):AP Tryz.prog 116 args σ K:=
 AT (cx:=Gr) (code:=Tryz.f116.body.getD .skip) R3 (by kernel_rfl) Tryz.ntmps116 hl (AW Gr _ (Aw RX) _ [] (by kernel_rfl)) h
def U2:C:=(.seq (.reg [Qb 2 false] [0])
 (.seq (.reg [Qm 3 0,
 Qo 4 (.bin .geq (.t 3) (.c (.d (.int .u8 48)))),
 Qm 5 4,
 ⟨some 6,.mv (.t 0),some (5,true)⟩,
 ⟨some 7,.bin .leq (.t 6) (.c (.d (.int .u8 57))),some (5,true)⟩,
 Qa 8 5 7,
 Qm 2 8] [2])
 .ret))
noncomputable def I4:Cx:=⟨Tryz.prog,117,Tryz.f117,9,[],[],[.t 2]⟩
theorem Ub:Good I4:=⟨Tryz.func117,by kernel_rfl⟩
theorem aS:I4.rs=[.t 2]:=rfl
theorem c8 (hl:args.length≤9) (h:Run I4 K [.code U2] (Ak args) E σ):AP Tryz.prog 117 args σ K:=
 AT (cx:=I4) (code:=Tryz.f117.body.getD .skip) Ub (by kernel_rfl) Tryz.ntmps117 hl (AW I4 _ (Aw U2) _ [] (by kernel_rfl)) h
def Wg:C:=(.seq (.reg [Qo 8 (.bin .lss (.t 7) (.t 6))] [0,3,6,7,8])
 (.seq (.cond (.t 8) .skip
 (.exit 0))
 (.seq (.block 1 (.seq (.reg [Qm 9 7,
 Qm 4 9] [0,3,4,6,7])
 (.seq (.reg [Qm 10 3,
 Qo 11 (.bin .mul (.t 10) (.c (.d (.int .i64 10)))),
 Qm 12 0,
 Qm 13 4,
 Qo 14 (.Oj (.t 12) (.t 13)),
 Qo 15 (.bin .sub (.t 14) (.c (.d (.int .u8 48)))),
 Qo 16 (.conv .i64 (.t 15)),
 Qo 17 (.bin .add (.t 11) (.t 16)),
 Qm 3 17] [0,3,6,7])
 (.seq (.reg [Qm 18 3,
 Qo 19 (.bin .gtr (.t 18) (.c (.d (.int .i64 1000000))))] [0,3,6,7,19])
 (.cond (.t 19) (.seq (.reg [Qb 2 false] [2])
 .ret)
 .skip)))))
 (.reg [Qp 20 7 1,
 Qm 7 20] [0,3,6,7]))))
def U4:C:=(.seq (.reg [Qb 2 false] [0])
 (.seq (.reg [Qi 3 0] [0,3])
 (.seq (.seq (.reg [Qm 5 0,
 Qo 6 (.Lp (.t 5)),
 Qi 7 0] [0,3,6,7])
 (.block 0 (.loop Wg)))
 (.seq (.reg [Qb 2 true] [2])
 .ret))))
noncomputable def I6:Cx:=⟨Tryz.prog,118,Tryz.f118,21,[],[],[.t 2]⟩
theorem O0:Good I6:=⟨Tryz.func118,by kernel_rfl⟩
theorem aU:I6.rs=[.t 2]:=rfl
theorem dB (hl:args.length≤21) (h:Run I6 K [.code U4] (Ak args) E σ):AP Tryz.prog 118 args σ K:=
 AT (cx:=I6) (code:=Tryz.f118.body.getD .skip) O0 (by kernel_rfl) Tryz.ntmps118 hl (AW I6 _ (Aw U4) _ [] (by kernel_rfl)) h
def Vd:C:=(.seq (.reg [Qo 2 (.mv (.c (.d (.str []))))] [0])
 (.seq (.seq (.reg [Qm 3 0,
 Qo 4 (.Lp (.t 3)),
 Qo 5 (.bin .geq (.t 4) (.c (.d (.int .i64 2))))] [0,5])
 (.cond (.t 5) (.seq (.reg [Qm 6 0,
 Qo 7 (.ssl (.t 6) none (some (.c (.d (.int .i64 2)))))] [0,7])
 (.block 0 (.seq (.seq (.reg [Qo 9 (.bin .eql (.t 7) (.c (.d (.str [45,62])))),
 Qm 8 9] [0,7,8])
 (.cond (.t 8) .skip
 (.seq (.reg [Qo 10 (.bin .eql (.t 7) (.c (.d (.str [60,61])))),
 Qm 8 10] [0,7,8])
 (.cond (.t 8) .skip
 (.reg [Qo 11 (.bin .eql (.t 7) (.c (.d (.str [61,61])))),
 Qm 8 11] [0,8])))))
 (.cond (.t 8) (.seq (.reg [Qm 12 0,
 Qo 13 (.ssl (.t 12) none (some (.c (.d (.int .i64 2))))),
 Qm 2 13] [2])
 .ret)
 .skip))))
 .skip))
 (.seq (.seq (.reg [Qm 14 0,
 Qo 15 (.ssl (.t 14) none (some (.c (.d (.int .i64 1)))))] [0,15])
 (.block 1 (.seq (.seq (.reg [Qo 17 (.bin .eql (.t 15) (.c (.d (.str [40])))),
 Qm 16 17] [0,15,16])
 (.cond (.t 16) .skip
 (.seq (.reg [Qo 18 (.bin .eql (.t 15) (.c (.d (.str [41])))),
 Qm 16 18] [0,15,16])
 (.cond (.t 16) .skip
 (.seq (.reg [Qo 19 (.bin .eql (.t 15) (.c (.d (.str [44])))),
 Qm 16 19] [0,15,16])
 (.cond (.t 16) .skip
 (.seq (.reg [Qo 20 (.bin .eql (.t 15) (.c (.d (.str [61])))),
 Qm 16 20] [0,15,16])
 (.cond (.t 16) .skip
 (.seq (.reg [Qo 21 (.bin .eql (.t 15) (.c (.d (.str [124])))),
 Qm 16 21] [0,15,16])
 (.cond (.t 16) .skip
 (.seq (.reg [Qo 22 (.bin .eql (.t 15) (.c (.d (.str [43])))),
 Qm 16 22] [0,15,16])
 (.cond (.t 16) .skip
 (.seq (.reg [Qo 23 (.bin .eql (.t 15) (.c (.d (.str [45])))),
 Qm 16 23] [0,15,16])
 (.cond (.t 16) .skip
 (.seq (.reg [Qo 24 (.bin .eql (.t 15) (.c (.d (.str [42])))),
 Qm 16 24] [0,15,16])
 (.cond (.t 16) .skip
 (.seq (.reg [Qo 25 (.bin .eql (.t 15) (.c (.d (.str [47])))),
 Qm 16 25] [0,15,16])
 (.cond (.t 16) .skip
 (.seq (.reg [Qo 26 (.bin .eql (.t 15) (.c (.d (.str [37])))),
 Qm 16 26] [0,15,16])
 (.cond (.t 16) .skip
 (.seq (.reg [Qo 27 (.bin .eql (.t 15) (.c (.d (.str [60])))),
 Qm 16 27] [0,15,16])
 (.cond (.t 16) .skip
 (.seq (.reg [Qo 28 (.bin .eql (.t 15) (.c (.d (.str [59])))),
 Qm 16 28] [0,15,16])
 (.cond (.t 16) .skip
 (.reg [Qo 29 (.bin .eql (.t 15) (.c (.d (.str [95])))),
 Qm 16 29] [0,16])))))))))))))))))))))))))
 (.cond (.t 16) (.seq (.reg [Qm 30 0,
 Qo 31 (.ssl (.t 30) none (some (.c (.d (.int .i64 1))))),
 Qm 2 31] [2])
 .ret)
 .skip))))
 (.seq (.reg [Qo 2 (.mv (.c (.d (.str []))))] [2])
 .ret))))
noncomputable def Jp:Cx:=⟨Tryz.prog,119,Tryz.f119,32,[],[],[.t 2]⟩
theorem QN:Good Jp:=⟨Tryz.func119,by kernel_rfl⟩
theorem dJ:Jp.rs=[.t 2]:=rfl
theorem Vq (hl:args.length≤32) (h:Run Jp K [.code Vd] (Ak args) E σ):AP Tryz.prog 119 args σ K:=
 AT (cx:=Jp) (code:=Tryz.f119.body.getD .skip) QN (by kernel_rfl) Tryz.ntmps119 hl (AW Jp _ (Aw Vd) _ [] (by kernel_rfl)) h
def Kx:C:=(.seq (.reg [Qo 9 (.bin .lss (.t 8) (.t 7))] [0,1,7,8,9])
 (.seq (.cond (.t 9) .skip
 (.exit 0))
 (.seq (.block 1 (.seq (.reg [Qm 10 8,
 Qm 5 10] [0,1,5,7,8])
 (.seq (.reg [Qm 11 1,
 Qm 12 0,
 Qm 13 5,
 Qo 14 (.ix (.t 12) (.t 13) 8),
 Qo 15 (.ld (.t 14) (some 8)),
 Qo 16 (.E2 (.t 11) [(.t 15)])] [0,1,5,7,8,16])
 (.cond (.t 16) (.seq (.reg [Qm 17 5,
 Qm 4 17] [4])
 .ret)
 .skip))))
 (.reg [Qp 18 8 1,
 Qm 8 18] [0,1,7,8]))))
def HM:C:=(.seq (.reg [Qi 4 0] [0,1])
 (.seq (.seq (.reg [Qm 6 0,
 Qo 7 (.len (.t 6)),
 Qi 8 0] [0,1,7,8])
 (.block 0 (.loop Kx)))
 (.seq (.reg [Qi 4 (-1)] [4])
 .ret)))
noncomputable def C7:Cx:=⟨Tryz.prog,195,Tryz.f195,19,[],[],[.t 4]⟩
theorem Eu:Good C7:=⟨Tryz.func195,by kernel_rfl⟩
theorem Mq:C7.rs=[.t 4]:=rfl
theorem NV (hl:args.length≤19) (h:Run C7 K [.code HM] (Ak args) E σ):AP Tryz.prog 195 args σ K:=
 AT (cx:=C7) (code:=Tryz.f195.body.getD .skip) Eu (by kernel_rfl) Tryz.ntmps195 hl (AW C7 _ (Aw HM) _ [] (by kernel_rfl)) h
attribute [go_sem] j5 Y9 gQ j6 Y7 Y6 UC XY TH Qg jY Y4 WY Nw SJ Na Pf UF WW Li Qf UE j1 j2 j0 dH jZ nM Ih Mr IT MK SK aQ N9 UD Yb XX Rw VQ WV UB Jv Jj aR dI Kk P3 aT aV Yc Yd XZ aS aU dJ Mq
end Go.Ab
