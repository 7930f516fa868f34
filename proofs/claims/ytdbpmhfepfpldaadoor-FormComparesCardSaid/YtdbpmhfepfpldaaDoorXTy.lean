/- The types of package api as plain data, and how they lie in abstract values. The programs of package api as plain data, and how they lie in abstract values. Rules for walks that split and call by themselves. Rows of pairs of numbers. Linear forms as plain data; leaves. Contracts of library functions, carried over to abstract states. Sorting a shared row of pairs. The library contracts that are used, laid at this program. Conditions: none. -/
import Derived.Shelf.SlSortCmp.WholeK
import Derived.Lib.ItoaLen
import Derived.Lib.LaidTab
import Derived.Shelf.SlGeneric
import Derived.Shelf.Strings.Builder1
import Derived.Shelf.LaysM
import Derived.Shelf.Strconv.Itoa4
import Derived.Shelf.SlicesG.Cmp
import Derived.Test.YtdbpmhfepfpldaaDoorProg
import Derived.Test.YtdbpmhfepfpldaaDoorXAb13
set_option linter.unusedSimpArgs false
set_option linter.unusedVariables false
set_option maxRecDepth 4000
set_option maxHeartbeats 8000000
open List renaming take_add_one→Ds,getElem?_map→Ao,getElem?_eq_some_iff→AL,length_cons→Ap,all_cons→Ar,getElem?_cons_zero→KZ,length_map→AG,take_of_length_le→Ag,length_nil→B7,all_nil→Cq,getElem?_take→A9,length_eq_zero_iff→DK,size_toArray→Bl,mem_of_getElem?→BA
open Bool renaming not_eq_true'→F4,true_and→GV,and_true→DG,and_eq_true→AJ
open Option.some renaming injEq→AD
open Nat renaming lt_of_lt_of_le→Db,zero_add→Ah,zero_le→BM
open Option renaming bind_some→BU,map_some→Ax
open Array renaming getElem?_modify→Cg,getD_eq_getD_getElem?→BF,getElem?_eq_some_iff→Cc,getElem?_eq_getElem→Bu
namespace Go.Ab
inductive Ty where
 |mk (kind num:Int) (args:List Ty)
def Ty.kind:Ty→Int| .mk k _ _=>k
def Ty.num:Ty→Int| .mk _ n _=>n
def Ty.args:Ty→List Ty| .mk _ _ l=>l
mutual
def Ty.enc:Ty→List DV
 | .mk k n l=>[.int .i64 k,.int .i64 n,.sl (Ty.JK l)]
def Ty.JK:List Ty→List (List DV)
 |[]=>[]
 |t::l=>Ty.enc t::Ty.JK l
end
mutual
def Ty.size:Ty→Nat
 | .mk _ _ l=>1+Ty.Gt l
def Ty.Gt:List Ty→Nat
 |[]=>0
 |t::l=>Ty.size t+Ty.Gt l
end
def tyA (t:Ty):AV:= .agg (t.enc.map AV.d)
def WS (l:List Ty):AV:= .d (.sl (Ty.JK l))
theorem HO {α:Type} {l:List α} {i:Nat} {x:α} (h:l[i]?=some x):l.take (i+1)=l.take i++[x]:=by
 rw [Ds,h];rfl
end Go.Ab
namespace Go.Ab
abbrev Str:=List UInt8
inductive TE where
 |mk (kind:Int) (name:Str) (args:List TE)
structure CE where
 name:Str
 args:List TE
structure DE where
 name:Str
 vars:List Str
 cons:List CE
mutual
inductive Ex where
 |mk (op:Int) (name:Str) (num:Int) (names:List Str) (kids:List Ex) (alts:List Al)
inductive Al where
 |mk (con:Str) (vars:List Str) (body:Ex)
end
structure FE where
 name:Str
 params:List Str
 body:Ex
structure Pg where
 data:List DE
 WR:List FE
def VU (s:Str):List DV:=[.str s]
def ssD (l:List Str):DV:= .sl (l.map VU)
mutual
def TE.enc:TE→List DV
 | .mk k n l=>[.int .i64 k,.str n,.sl (TE.JK l)]
def TE.JK:List TE→List (List DV)
 |[]=>[]
 |t::l=>TE.enc t::TE.JK l
end
mutual
def Ex.enc:Ex→List DV
 | .mk o n u ns ks aS=>[.int .i64 o,.str n,.int .i64 u,ssD ns,.sl (Ex.JK ks),.sl (Al.JK aS)]
def Ex.JK:List Ex→List (List DV)
 |[]=>[]
 |t::l=>Ex.enc t::Ex.JK l
def Al.enc:Al→List DV
 | .mk c vs b=>.str c::ssD vs::Ex.enc b
def Al.JK:List Al→List (List DV)
 |[]=>[]
 |t::l=>Al.enc t::Al.JK l
end
def CE.enc (c:CE):List DV:=[.str c.name,.sl (c.args.map TE.enc)]
def DE.enc (d:DE):List DV:=[.str d.name,.sl (d.vars.map VU),.sl (d.cons.map CE.enc)]
def FE.enc (f:FE):List DV:= .str f.name::.sl (f.params.map VU)::f.body.enc
def Pg.enc (p:Pg):List DV:=[.sl (p.data.map DE.enc),.sl (p.WR.map FE.enc)]
theorem Sz {α:Type} {enc:α→List DV} {l:List α} {i:Nat} {x:α} (h:l[i]?=some x):(l.map enc)[i]?=some (enc x):=by
 rw [Ao,h];rfl
theorem EB {α:Type} {l:List α} {i:Nat} {x:α} (h:l[i]?=some x):l.drop i=x::l.drop (i+1):=by
 have hlt:=(AL.1 h).1
 rw [List.drop_eq_getElem_cons hlt];congr 1;exact (AL.1 h).2
theorem Dt {α:Type} {l:List α} {i:Nat} (h:i < l.length):∃x,l[i]?=some x:=⟨l[i],by simp [h]⟩
mutual
def TE.size:TE→Nat
 | .mk _ _ l=>1+TE.Gt l
def TE.Gt:List TE→Nat
 |[]=>0
 |t::l=>TE.size t+TE.Gt l
end
mutual
def Ex.size:Ex→Nat
 | .mk _ _ _ _ ks aS=>1+Ex.Gt ks+Al.Gt aS
def Ex.Gt:List Ex→Nat
 |[]=>0
 |t::l=>Ex.size t+Ex.Gt l
def Al.size:Al→Nat
 | .mk _ _ b=>Ex.size b
def Al.Gt:List Al→Nat
 |[]=>0
 |t::l=>Al.size t+Al.Gt l
end
end Go.Ab
namespace Go.Ab
open Go.RowKit
variable {P:Program} {K:BX} {F:Fm} {L:Lm} {σ:AF}
theorem OF {s:Nat} {v:AV} (h:F s=v):put s v F=F:=by
 funext t
 simp only [put]
 split
 · rename_i e;rw [← h];first|(subst e;rfl)|(rw [e])
 · rfl
theorem AO {d:Option Nat} {o:O} {s:Nat} {want b:Bool} {r:List Q} (hF:F s= .d (.bool b))
 (h1:b=true→Ai P K (⟨d,o,some (s,want)⟩::r) (put s (.d (.bool true)) F) L σ) (h2:b=false→Ai P K (⟨d,o,some (s,want)⟩::r) (put s (.d (.bool false)) F) L σ):
 Ai P K (⟨d,o,some (s,want)⟩::r) F L σ:=by
 cases b
 · have:=h2 rfl;rw [OF hF] at this;exact this
 · have:=h1 rfl;rw [OF hF] at this;exact this
theorem AK.det {d:Option Nat} {f:FuncId} {args:List AV} {v:AV} (h:AM P f args σ (fun v' σ'=>v'=v∧σ'=σ)) (hk:K (AY d v F) L σ) (hn:args.all AV.BC=true:=by rfl):AK P f args d K F L σ:=
 AK.mk hn h (fun v' σ' ⟨e1,e2⟩=>by subst e1;subst e2;exact hk)
theorem wrap_add {a b:Nat} (h:a+b≤9000000000000000000):IntKind.i64.wrap ((a:Int)+(b:Int))=((a+b:Nat):Int):=by
 rw [Dl (by omega) (by omega)];omega
theorem Bc {a:Nat} (h:a+1≤9000000000000000000):IntKind.i64.wrap ((a:Int)+1)=((a+1:Nat):Int):=by
 rw [Dl (by omega) (by omega)];omega
theorem CR {i n:Nat} (h:i < n):decide ((i:Int) < (n:Int))=true:=by simp [h]
theorem DU {i n:Nat} (h:¬i < n):decide ((i:Int) < (n:Int))=false:=by simp;omega
theorem Run.Uh {cx:Cx} {KK:AV→AF→Prop} {k:List CI} (ks:List Nat) (h:Run cx KK k (Mu ks F) (Ik ks L) σ):Run cx KK k F L σ:=
 fun items base g lam Pr a w0 w b cs hi hf hb hk=>h items base g lam Pr a w0 w b cs hi (hf.kept ks) hb hk
def ctl (bl:Bool):List CI→Option (List CI)
 | .code .skip::k=>some k
 | .code (.seq x y)::k=>some (.code x::.code y::k)
 | .code (.block i c)::k=>if bl then some (.code c::.blk i::k) else none
 | .code (.scope c)::k=>some (.code c::.scp::k)
 | .blk _::k=>some k
 | .scp::k=>some k
 | .code (.exit i)::k=>I8 i k
 |_=>none
theorem Run.ctB {cx:Cx} {KK:AV→AF→Prop} (bl:Bool) {k k':List CI} (e:ctl bl k=some k') (h:Run cx KK k' F L σ):Run cx KK k F L σ:=by
 unfold ctl at e
 split at e
 · cases e;exact Run.skip h
 · cases e;exact Run.seq h
 · split at e
   · cases e;exact Run.block h
   · cases e
 · cases e;exact Run.scope h
 · cases e;exact Run.blk h
 · cases e;exact Run.scp h
 · exact Run.exit e h
 · cases e
theorem Run.ct {cx:Cx} {KK:AV→AF→Prop} {k k':List CI} (e:ctl true k=some k') (h:Run cx KK k' F L σ):Run cx KK k F L σ:=Run.ctB true e h
attribute [go_sem] Nat.reduceEqDiff Nat.reduceBEq Nat.reduceAdd Nat.reduceLeDiff reduceIte reduceCtorEq
attribute [go_sem] MT WS tyA Ty.enc Ty.JK eq_self F4 Bool.not_eq_false'
end Go.Ab
namespace Go.Ab
open Go.RowKit
def prs:List (Int×Int)→List AV
 |[]=>[]
 |x::l=>.d (.int .i64 x.1)::.d (.int .i64 x.2)::prs l
def encI (x:Int×Int):List Value:=[.int .i64 x.1,.int .i64 x.2]
theorem FX:∀l:List (Int×Int),(prs l).length=l.length * 2
 |[]=>rfl
 |x::l=>by simp only [prs,Ap,FX l];omega
theorem LQ:∀l m:List (Int×Int),prs (l++m)=prs l++prs m
 |[],m=>rfl
 |x::l,m=>by simp [prs,LQ l m]
theorem Sq:∀l:List (Int×Int),AS (prs l)=true
 |[]=>rfl
 |x::l=>by
  have:=Sq l
  simp only [AS,prs,Ar,AV.BH,GV] at this ⊢
  exact this
theorem HK:∀(l:List (Int×Int)) (q:Nat) (x:Int×Int),l[q]?=some x→(prs l)[q * 2]?=some (.d (.int .i64 x.1))∧(prs l)[q * 2+1]?=some (.d (.int .i64 x.2))
 |[],q,x,h=>by simp at h
 |y::l,0,x,h=>by simp only [KZ,AD] at h;subst h;simp [prs]
 |y::l,q+1,x,h=>by
  have:=HK l q x (by simpa using h)
  rw [show (q+1) * 2=q * 2+1+1 by omega]
  simpa [prs] using this
end Go.Ab
namespace Go.Ab
open Go.Proofs
structure Ln where
 c:Int
 ts:List (Int×Int)
def tmR (x:Int×Int):List DV:=[.int .i64 x.1,.int .i64 x.2]
def Ln.enc (l:Ln):List DV:=[.int .i64 l.c,.sl (l.ts.map tmR)]
theorem Rn {a b:Int} (h:a≠b):(a==b)=false:=by simpa using h
theorem Vn {a b:Int} (h:a=b):(a==b)=true:=by simpa using h
def B6 (l:Ln):AV:= .agg [.d (.int .i64 l.c),.d (.sl (l.ts.map tmR))]
def Gw (l:List (Int×Int)):AV:= .d (.sl (l.map tmR))
def smB (n:Int):Bool:=decide (-1048576≤n)&&decide (n≤1048576)
def vaB (n:Int):Bool:=decide (-1≤n)&&decide (n < 3000)
theorem BQ (n:Int) (σ:AF):AM Tryd.prog 49 [.d (.int .i64 n)] σ (fun v σ'=>v= .d (.bool (smB n))∧σ'=σ):=by
 refine LB (by simp) ?_
 rw [CQ]
 (repeat' (first|refine Run.ct rfl ?_|((first|refine Run.reg mixed ?_|refine Run.AN ?_|refine Run.Aj Gd (AF.le_refl _) ?_|(refine AO rfl (fun h=>?_) (fun h=>?_)<;>try (cases h;done)))<;>try simp -implicitDefEqProofs only [go_sem])|(refine ⟨fun h=>?_,fun h=>?_⟩<;>first|(cases h;done)|try simp only [h])|fail))
 all_goals (simp_all [smB];try omega)
theorem BZ (n:Int) (σ:AF):AM Tryd.prog 50 [.d (.int .i64 n)] σ (fun v σ'=>v= .d (.bool (vaB n))∧σ'=σ):=by
 refine Ii (by simp) ?_
 rw [CQ]
 (repeat' (first|refine Run.ct rfl ?_|((first|refine Run.reg mixed ?_|refine Run.AN ?_|refine Run.Aj FW (AF.le_refl _) ?_|(refine AO rfl (fun h=>?_) (fun h=>?_)<;>try (cases h;done)))<;>try simp -implicitDefEqProofs only [go_sem])|(refine ⟨fun h=>?_,fun h=>?_⟩<;>first|(cases h;done)|try simp only [h])|fail))
 all_goals (simp_all [vaB];try omega)
theorem Jk (l:Ln) (σ:AF):AM Tryd.prog 36 [B6 l] σ (fun v σ'=>v= .d (.bool (decide (l.ts.length≤70)))∧σ'=σ):=by
 refine Ou (by simp) ?_
 rw [CQ,B6]
 (repeat' (first|refine Run.ct rfl ?_|((first|refine Run.reg mixed ?_|refine Run.AN ?_|refine Run.Aj Ku (AF.le_refl _) ?_|(refine AO rfl (fun h=>?_) (fun h=>?_)<;>try (cases h;done)))<;>try simp -implicitDefEqProofs only [go_sem])|(refine ⟨fun h=>?_,fun h=>?_⟩<;>first|(cases h;done)|try simp only [h])|fail))
 all_goals (simp only [AG,and_true,AV.d.injEq,DV.bool.injEq,decide_eq_decide];omega)
def Mj (n:Int):Ln:=if smB n then ⟨n,[]⟩ else ⟨0,[]⟩
def Ei (n:Int):Ln:=if vaB n then ⟨0,[(n,1)]⟩ else ⟨0,[]⟩
theorem KE (n:Int) (σ:AF):AM Tryd.prog 18 [.d (.int .i64 n)] σ (fun v σ'=>v=B6 (Mj n)∧σ'=σ):=by
 refine Kz (by simp) ?_
 rw [CQ]
 (repeat' (first|refine Run.ct rfl ?_|((first|refine Run.reg mixed ?_|refine Run.AN ?_|refine Run.Aj Gc (AF.le_refl _) ?_|refine AK.det (BQ _ _) ?_|(refine AO rfl (fun h=>?_) (fun h=>?_)<;>try (cases h;done)))<;>try simp -implicitDefEqProofs only [go_sem])|(refine ⟨fun h=>?_,fun h=>?_⟩<;>first|(cases h;done)|try simp only [h])|fail))
 all_goals (simp_all [Mj,B6])
theorem Eu (n:Int) (σ:AF):AM Tryd.prog 20 [.d (.int .i64 n)] σ (fun v σ'=>v=B6 (Ei n)∧σ'=σ):=by
 refine Ih (by simp) ?_
 rw [CQ]
 (repeat' (first|refine Run.ct rfl ?_|((first|refine Run.reg mixed ?_|refine Run.AN ?_|refine Run.Aj FV (AF.le_refl _) ?_|refine AK.det (BZ _ _) ?_|(refine AO rfl (fun h=>?_) (fun h=>?_)<;>try (cases h;done)))<;>try simp -implicitDefEqProofs only [go_sem])|(refine ⟨fun h=>?_,fun h=>?_⟩<;>first|(cases h;done)|try simp only [h])|fail))
 all_goals (simp_all [Ei,B6,tmR])
end Go.Ab
namespace Go.Ab
open Go.RowKit Go.Sort
variable {P:Program} {base N:Nat} {g g':Gh} {Pr:Nat→Prop} {σ σ':AF} {w0 w w':World}
theorem Rel.grown (h:Rel base g Pr σ w0 w) (k:Nat) (os:Array Obj):Rel base g Pr σ w0 (Sort.grow (w.drewN k) os)∧KP Pr w (Sort.grow (w.drewN k) os):=by
 have hsz:(Sort.grow (w.drewN k) os).heap.size=w.heap.size+os.size:=by rw [size_grow];rfl
 have hb:∀b,b < w.heap.size→(Sort.grow (w.drewN k) os).heap[b]?=w.heap[b]?:=fun b hb=>by
  show (w.heap++os)[b]?=w.heap[b]?
  rw [Array.getElem?_append,if_pos hb]
 refine ⟨h.grow (by omega) (fun b hlt _=>hb b hlt) ⟨rfl,rfl,rfl,by omega,fun b hlt=>hb b (Db hlt h.bs)⟩ (fun b hp=>⟨by have:=(h.pr b hp).1;omega,.inl hp⟩),by omega,fun b hp=>hb b (h.pr b hp).1⟩
theorem Rel.tab (h:Rel base g Pr σ w0 w) {name:String} {b:Nat} {vs:Array Value} (hg:P.globalNamed name=some b) (hb:σ.gt b=some vs):w.var? P name=some vs:=by
 obtain ⟨hlt,ty,fr,hc⟩:=h.st.1 b vs hb
 unfold World.var?
 rw [hg,BU,h.bel.block b hlt,hc]
theorem AM.Px {f:FuncId} {args:List AV} {x:DV}
 (h:∀(base:Nat) (g:Gh) (Pr:Nat→Prop) (w0 w:World) (vs:List Value),Rel base g Pr σ w0 w→VRs g args vs→∃v,RD g.im x v∧Calls P f vs.toArray w fun e w'=>e= .returned v∧∃k os,w'=Sort.grow (w.drewN k) os):
 AM P f args σ (fun v σ'=>v= .d x∧σ'=σ):=by
 intro base g Pr w0 w vs hr hv
 obtain ⟨v,hx,hc⟩:=h base g Pr w0 w vs hr hv
 refine hc.mono ?_
 rintro e w' ⟨rfl,k,os,rfl⟩
 obtain ⟨h1,h2⟩:=hr.grown k os
 exact ⟨v,.d x,g,σ,rfl,.d hx,h1,Gh.le_refl g,h2,rfl,rfl⟩
theorem VRs.one {c:AV} {vs:List Value} (h:VRs g [c] vs):∃v,vs=[v]∧VR g c v:=by
 cases h with|cons h hs=>cases hs;exact ⟨_,rfl,h⟩
theorem VRs.two {c d:AV} {vs:List Value} (h:VRs g [c,d] vs):∃v u,vs=[v,u]∧VR g c v∧VR g d u:=by
 cases h with|cons h hs=>obtain ⟨u,rfl,hu⟩:=hs.one;exact ⟨_,_,rfl,h,hu⟩
theorem VR.Ij {k:IntKind} {n:Int} {v:Value} (h:VR g (.d (.int k n)) v):v= .int k n∧k.has n:=by
 cases h with|d h=>cases h with|int h=>exact ⟨rfl,h⟩
theorem Rel.Vo (h:Rel base g Pr σ w0 w) {i:Nat} {a s:AV} {ty:TypeId} (hb:σ.blk i=some [a,s]) (ht:σ.bt i=some (2,ty)):
 ∃b x y,g.mu i=some b∧w.heap[b]?=some (.cells #[x,y] ty (0,0))∧VR g a x∧VR g s y∧base≤b∧¬Pr b∧AS [a,s]=true:=by
 obtain ⟨b,hm,hs⟩:=h.shr i _ hb
 obtain ⟨vs,ty',hh,hl,hrt,hv⟩:=hs.row
 obtain ⟨h1,h2⟩:=hrt (2,ty) (h.st.2 i _ ht)
 simp only at h1 h2
 subst h2
 obtain ⟨x,y,hxy,hx,hy⟩:=hv.two
 have hvs:vs=#[x,y]:=by
  apply Array.toList_inj.1
  rw [← hxy,Ag (by simp [h1])]
 subst hvs
 exact ⟨b,x,y,hm,hh,hx,hy,hs.low,hs.pr,hs.ok⟩
theorem Oe {f:FuncId} (hc:∀(b:Nat) (w:World),w.cell? ⟨b,0,none⟩=some (.pointer (some ⟨b,0,none⟩))→Calls P f #[.pointer (some ⟨b,0,none⟩)] w fun e w'=>e= .returned (.tuple #[])∧w'=w)
 {i:Nat} {s:AV} {ty:TypeId} (hb:σ.blk i=some [.gp i 0,s]) (ht:σ.bt i=some (2,ty)):AM P f [.gp i 0] σ (fun v σ'=>v= .tup []∧σ'=σ):=by
 intro base g Pr w0 w vs hr hv
 obtain ⟨v,rfl,hvv⟩:=hv.one
 obtain ⟨b,x,y,hm,hh,hx,_,_,_,_⟩:=hr.Vo hb ht
 cases hvv with|gp h=>
 cases hx with|gp h'=>
 rw [hm] at h h';cases h;cases h'
 refine (hc b w (by simp [World.cell?,hh])).mono ?_
 rintro e w' ⟨rfl,rfl⟩
 exact ⟨_,.tup [],g,σ,rfl,.tup (vs:=[]) rfl (by simp),hr,Gh.le_refl g,KP.refl _ _,rfl,rfl⟩
theorem Nb {f:FuncId} {ty:TypeId} (hc:∀(b:Nat) (w:World),w.cell? ⟨b,0,none⟩=some (.pointer none)→w.shape? b=some (ty,2)→w.frozen? ⟨b,0,none⟩=false→Calls P f #[.pointer (some ⟨b,0,none⟩)] w fun e w'=>e= .returned (.tuple #[])∧w'=w.setCell ⟨b,0,none⟩ (.pointer (some ⟨b,0,none⟩)))
 {i:Nat} {s:AV} (hb:σ.blk i=some [.CS,s]) (ht:σ.bt i=some (2,ty)):AM P f [.gp i 0] σ (fun v σ'=>v= .tup []∧σ'=σ.AX i [.gp i 0,s]):=by
 intro base g Pr w0 w vs hr hv
 obtain ⟨v,rfl,hvv⟩:=hv.one
 obtain ⟨b,x,y,hm,hh,hx,hy,hlow,hpr,hok⟩:=hr.Vo hb ht
 cases hvv with|gp h=>
 cases hx with|CS=>
 rw [hm] at h;cases h
 refine (hc b w (by simp [World.cell?,hh]) (by simp [World.shape?,hh]) (by simp [World.frozen?,hh])).mono ?_
 rintro e w' ⟨rfl,rfl⟩
 have hbel:Below base w (w.setCell ⟨b,0,none⟩ (.pointer (some ⟨b,0,none⟩))):=(Below.refl base w).setCell (p:=⟨b,0,none⟩) hlow _
 have hsz:(w.setCell ⟨b,0,none⟩ (.pointer (some ⟨b,0,none⟩))).heap.size=w.heap.size:=by simp [World.setCell]
 have hne:∀k,k≠b→(w.setCell ⟨b,0,none⟩ (.pointer (some ⟨b,0,none⟩))).heap[k]?=w.heap[k]?:=fun k hk=>by
  simp only [World.setCell,Cg]
  rw [if_neg (fun e=>hk e.symm)]
 have hat:(w.setCell ⟨b,0,none⟩ (.pointer (some ⟨b,0,none⟩))).heap[b]?=some (.cells #[.pointer (some ⟨b,0,none⟩),y] ty (0,0)):=by
  simp [World.setCell,Cg,hh]
 refine ⟨_,.tup [],g,σ.AX i [.gp i 0,s],rfl,.tup (vs:=[]) rfl (by simp),?_,Gh.le_refl g,⟨by omega,fun k hk=>hne k (fun e=>hpr (e ▸ hk))⟩,rfl,rfl⟩
 refine hr.write hb hm (by omega) (fun k _ hk=>hne k hk) hbel hat (by simp) (fun t he=>?_) ?_ ?_
 · have:=hr.st.2 i _ ht
   rw [this] at he;cases he;simp
 · simp only [Ap,B7,Ah]
   exact .cons (.gp hm) (.cons hy .nil)
 · simp only [AS,Ar,Cq,DG,AJ] at hok ⊢
   exact ⟨rfl,hok.2⟩
end Go.Ab
namespace Go.Ab
open Go.RowKit Go.Sort Go.Proofs
variable {P:Program} {base N:Nat} {g g':Gh} {Pr:Nat→Prop} {σ σ':AF} {w0 w w':World}
def VE (x:Int×Int):Prop:=IntKind.i64.has x.1∧IntKind.i64.has x.2
theorem Sr {vs:Array Value} {l:List (Int×Int)} (h:VRs g (prs l) (vs.toList.take (prs l).length)) (q:Nat) (x:Int×Int) (hx:l[q]?=some x):
 vs[q * 2]?=some (.int .i64 x.1)∧vs[q * 2+1]?=some (.int .i64 x.2)∧VE x:=by
 obtain ⟨h1,h2⟩:=HK l q x hx
 obtain ⟨v,hv,hr⟩:=h.at _ _ h1
 obtain ⟨u,hu,hr'⟩:=h.at _ _ h2
 obtain ⟨rfl,ha⟩:=hr.Ij
 obtain ⟨rfl,hb⟩:=hr'.Ij
 have e1:=(AL.1 h1).1
 have e2:=(AL.1 h2).1
 rw [A9,if_pos e1] at hv
 rw [A9,if_pos e2] at hu
 exact ⟨by simpa using hv,by simpa using hu,ha,hb⟩
theorem UA (vs:Array Value) (l:List (Int×Int)) (hl:(prs l).length≤vs.size) (h:∀(q:Nat) (x:Int×Int),l[q]?=some x→vs[q * 2]?=some (.int .i64 x.1)∧vs[q * 2+1]?=some (.int .i64 x.2)∧VE x):
 VRs g (prs l) (vs.toList.take (prs l).length):=by
 refine VRs.Ev _ _ (by simp;omega) (fun t c v hc hv=>?_)
 have ht:t < (prs l).length:=(AL.1 hc).1
 have hq:t / 2 < l.length:=by rw [FX] at ht;omega
 obtain ⟨x,hx⟩:∃x,l[t / 2]?=some x:=⟨l[t / 2],by simp [hq]⟩
 obtain ⟨h1,h2,h3,h4⟩:=h _ x hx
 obtain ⟨k1,k2⟩:=HK l _ x hx
 rw [A9,if_pos ht,Array.getElem?_toList] at hv
 rcases Nat.mod_two_eq_zero_or_one t with e|e
 · rw [show t / 2 * 2=t by omega] at h1 k1
   rw [k1] at hc;rw [h1] at hv;cases hc;cases hv
   exact .d (.int h3)
 · rw [show t / 2 * 2+1=t by omega] at h2 k2
   rw [k2] at hc;rw [h2] at hv;cases hc;cases hv
   exact .d (.int h4)
def Rx (x y:Int×Int):Int:=Lib.compareInt x.1 y.1
theorem KR (x y:Int×Int):ltOf Rx x y=decide (x.1 < y.1):=by
 unfold ltOf Rx Lib.compareInt
 by_cases h1:x.1 < y.1
 · simp [h1]
 · by_cases h2:y.1 < x.1<;>simp [h1,h2]
theorem Ry:SWO (ltOf Rx) where
 irrefl x:=by rw [KR];simp
 trans x y z h1 h2:=by rw [KR] at *;simp at *;omega
 ntrans x y z h1 h2:=by rw [KR] at *;simp at *;omega
theorem VC (d:Array (Int×Int)) (q:Nat) (x:Int×Int) (h:d[q]?=some x):d[q]! =x:=by
 rw [Array.getElem!_eq_getD,BF,h];rfl
theorem Ps (d:Array (Int×Int)) (q:Nat) (x:Int×Int) (h:d[q]?=some x):(flatK encI 2 d)[q * 2]! = .int .i64 x.1∧(flatK encI 2 d)[q * 2+1]! = .int .i64 x.2:=by
 have hq:q < d.size:=(Cc.1 h).1
 rw [get_flatK _ _ _ _ (by omega),get_flatK _ _ _ _ (by omega),show q * 2 / 2=q by omega,show (q * 2+1) / 2=q by omega,show q * 2 % 2=0 by omega,show (q * 2+1) % 2=1 by omega,VC d q x h]
 exact ⟨rfl,rfl⟩
theorem UJ {f sf:FuncId}
 (hc:∀(blk cap:Nat) (d:Array (Int×Int)) (w:World),HoldsK encI 2 w blk 0 d→blk < w.heap.size→d.size < 4611686018427387904→
   Calls P f #[.slice (some ⟨blk,0,none⟩) d.size cap,.func (.func sf) #[] #[]] w fun e w'=>e= .returned (.tuple #[])∧∃d' n os,PermIn 0 d.size d d'∧SortedIn (ltOf Rx) 0 d.size d'∧w'=sortWorldK encI 2 w blk 0 n d' os)
 {i e:Nat} {l:List (Int×Int)} (hsz:l.length < 4611686018427387904) (hb:σ.blk i=some (prs l)):
 AM P f [.ms i l.length 2 e,.fn sf [] []] σ (fun v σ'=>v= .tup []∧∃l',l'.Perm l∧l'.Pairwise (fun a b=>a.1≤b.1)∧σ'=σ.AX i (prs l')):=by
 intro base g Pr w0 w vs hr hv
 obtain ⟨v,u,rfl,h1,h2⟩:=hv.two
 obtain ⟨b,hm,hs⟩:=hr.shr i _ hb
 cases h1 with|@ms _ _ _ _ _ cap hm' _ _ _=>
 rw [hm] at hm';cases hm'
 cases h2 with|@fn _ _ _ fs cs hl hl' _ _=>
 obtain rfl:fs=[]:=DK.1 hl
 obtain rfl:cs=[]:=DK.1 hl'
 obtain ⟨vs,ty,hh,hle,hrt,hvv⟩:=hs.row
 have hread:=fun q x hx=>Sr hvv q x hx
 have hlt:b < w.heap.size:=(Cc.1 hh).1
 have hfz:∀o,w.frozen? ⟨b,o,none⟩=false:=fun o=>by simp [World.frozen?,hh]
 have hH:HoldsK encI 2 w b 0 l.toArray:=by
  intro j hj
  rw [size_flatK] at hj
  have hj':j / 2 < l.length:=by simp at hj;omega
  obtain ⟨x,hx⟩:∃x,l[j / 2]?=some x:=⟨l[j / 2],by simp [hj']⟩
  obtain ⟨r1,r2,_⟩:=hread _ x hx
  obtain ⟨f1,f2⟩:=Ps l.toArray (j / 2) x (by simpa using hx)
  refine ⟨?_,hfz _⟩
  rw [Ah]
  simp only [World.cell?,hh,id]
  rcases Nat.mod_two_eq_zero_or_one j with e|e
  · rw [show j / 2 * 2=j by omega] at r1 f1
    rw [f1];simpa using r1
  · rw [show j / 2 * 2+1=j by omega] at r2 f2
    rw [f2];simpa using r2
 have hcall:=hc b cap l.toArray w hH hlt (by simpa using hsz)
 rw [Bl] at hcall
 refine hcall.mono ?_
 rintro ex w' ⟨rfl,d',n,os,⟨hp1,_,hp2⟩,hso,rfl⟩
 simp only [Bl] at hp1 hp2 hso
 have hext:∀(d:Array (Int×Int)),d.size=l.length→(d.extract 0 l.length).toList=d.toList:=fun d hd=>by rw [← hd];simp
 rw [hext _ hp1,hext _ (by simp)] at hp2
 have hperm:d'.toList.Perm l:=by simpa using hp2
 have hat:(sortWorldK encI 2 w b 0 n d' os).heap[b]?=some (.cells (putCells id 0 (flatK encI 2 d') vs) ty (0,0)):=by
  unfold sortWorldK putRowK putRow mapBlock
  show ((w.heap.modify b (onCells (putCells id 0 (flatK encI 2 d'))))++os)[b]?=_
  rw [Array.getElem?_append,if_pos (by simpa using hlt),Cg,if_pos rfl,hh]
  rfl
 have hoth:∀k,k < w.heap.size→k≠b→(sortWorldK encI 2 w b 0 n d' os).heap[k]?=w.heap[k]?:=fun k hk hne=>by
  unfold sortWorldK putRowK putRow mapBlock
  show ((w.heap.modify b (onCells (putCells id 0 (flatK encI 2 d'))))++os)[k]?=_
  rw [Array.getElem?_append,if_pos (by simpa using hk),Cg,if_neg (fun e=>hne e.symm)]
 have hsize:w.heap.size≤(sortWorldK encI 2 w b 0 n d' os).heap.size:=by
  unfold sortWorldK putRowK putRow mapBlock
  show _≤((w.heap.modify b (onCells (putCells id 0 (flatK encI 2 d'))))++os).size
  simp
 have hll:d'.toList.length=l.length:=hperm.length_eq
 have hput:∀t,(putCells id 0 (flatK encI 2 d') vs)[t]?=(vs[t]?).map fun x=>if t < d'.size * 2 then (flatK encI 2 d')[t]! else x:=fun t=>by
  simp only [putCells,Array.getElem?_mapIdx,size_flatK,BM,true_and,Ah,Nat.sub_zero,id]
 have hvs':(putCells id 0 (flatK encI 2 d') vs).size=vs.size:=by simp [putCells]
 rw [FX] at hle
 refine ⟨_,.tup [],g,σ.AX i (prs d'.toList),rfl,.tup (vs:=[]) rfl (by simp),?_,Gh.le_refl g,⟨hsize,fun k hk=>hoth k (hr.pr k hk).1 (fun e=>hs.pr (e ▸ hk))⟩,rfl,d'.toList,hperm,?_,rfl⟩
 · refine hr.write hb hm hsize hoth ⟨rfl,rfl,rfl,hsize,fun k hk=>hoth k (Db hk hr.bs) (by have:=hs.low;omega)⟩ hat (by rw [hvs',FX,hll];exact hle) (fun t ht=>by rw [hvs'];exact hrt t ht) ?_ (Sq _)
   refine UA _ _ (by rw [hvs',FX,hll];exact hle) (fun q x hx=>?_)
   have hq:q < d'.size:=by
    have:=(AL.1 hx).1
    simpa using this
   obtain ⟨f1,f2⟩:=Ps d' q x (by simpa using hx)
   have hx2:VE x:=by
    have hmem:x∈l:=hperm.mem_iff.1 (BA hx)
    obtain ⟨p,hp⟩:=List.mem_iff_getElem?.1 hmem
    exact (hread p x hp).2.2
   have hd:d'.size=l.length:=by simpa using hll
   have e1:q * 2 < vs.size:=by omega
   have e2:q * 2+1 < vs.size:=by omega
   rw [hput,hput,Bu e1,Bu e2,Ax,Ax,if_pos (by omega),if_pos (by omega),f1,f2]
   exact ⟨rfl,rfl,hx2⟩
 · rw [List.pairwise_iff_getElem]
   intro p q hp hq hpq
   have:=hso p q (BM _) hpq (by simpa [hll] using hq)
   rw [KR] at this
   simp only [decide_eq_false_iff_not,Int.not_lt] at this
   have ep:d'[p]! =d'.toList[p]:=VC d' p _ (by simp [show p < d'.size by simpa using hp])
   have eq':d'[q]! =d'.toList[q]:=VC d' q _ (by simp [show q < d'.size by simpa using hq])
   rw [ep,eq'] at this
   exact this
end Go.Ab
namespace Go.Proofs
open Go.Shelf
def Tryd.Jl:Go.Shelf.Ren:=⟨fun|240=>82|276=>104|n=>n,fun|70=>70|0=>0|72=>73|4=>4|164=>126|37=>71|5=>5|n=>n,fun|n=>n⟩
theorem Tryd.Pt:Go.Proofs.Lays.n240 Tryd.prog Tryd.Jl:= {
 mixed:=by kernel_rfl
 f240:=Tryd.func82.trans (congrArg some (by kernel_rfl))
 f276:=Tryd.func104.trans (congrArg some (by kernel_rfl))
 t0:=Tryd.underlying0
 a0:=Tryd.isAgg0
 z0:=Tryd.sizeOf0
 v0:=Tryd.zeroValue0
 t4:=Tryd.underlying4
 a4:=Tryd.isAgg4
 z4:=Tryd.sizeOf4
 v4:=Tryd.zeroValue4
 t9:=Tryd.underlying9
 a9:=Tryd.isAgg9
 z9:=Tryd.sizeOf9
 v9:=Tryd.zeroValue9
 t20:=Tryd.underlying20
 a20:=Tryd.isAgg20
 z20:=Tryd.sizeOf20
 v20:=Tryd.zeroValue20
 t70:=Tryd.underlying70
 a70:=Tryd.isAgg70
 z70:=Tryd.sizeOf70
 v70:=Tryd.zeroValue70
 t72:=Tryd.underlying73
 a72:=Tryd.isAgg73
 z72:=Tryd.sizeOf73
 v72:=Tryd.zeroValue73
 t164:=Tryd.underlying126
 a164:=Tryd.isAgg126
 z164:=Tryd.sizeOf126
 v164:=Tryd.zeroValue126}
theorem Tryd.GJ:Builder.X72 Tryd.prog Tryd.Jl:= {
 sizeBuilder:=by kernel_rfl
 liesBuilder:=by kernel_rfl}
def Tryd.Mv:Go.Shelf.Ren:=⟨fun|171=>54|243=>84|246=>83|283=>105|284=>106|285=>107|286=>108|129=>118|317=>117|318=>119|319=>120|320=>121|337=>143|338=>144|n=>n,fun|3=>3|9=>9|2=>2|4=>4|171=>128|0=>0|53=>94|37=>71|5=>5|173=>131|212=>140|51=>117|20=>20|213=>141|46=>97|232=>169|233=>170|n=>n,fun|17=>0|18=>2|19=>3|n=>n⟩
theorem Tryd.SX:Go.Proofs.LaysM.n171 Tryd.prog Tryd.Mv:= {
 mixed:=by kernel_rfl
 f129:=Tryd.func118.trans (congrArg some (by kernel_rfl))
 f171:=Tryd.func54.trans (congrArg some (by kernel_rfl))
 f243:=Tryd.func84.trans (congrArg some (by kernel_rfl))
 f246:=Tryd.func83.trans (congrArg some (by kernel_rfl))
 f283:=Tryd.func105.trans (congrArg some (by kernel_rfl))
 f284:=Tryd.func106.trans (congrArg some (by kernel_rfl))
 f285:=Tryd.func107.trans (congrArg some (by kernel_rfl))
 f286:=Tryd.func108.trans (congrArg some (by kernel_rfl))
 f317:=Tryd.func117.trans (congrArg some (by kernel_rfl))
 f318:=Tryd.func119.trans (congrArg some (by kernel_rfl))
 f319:=Tryd.func120.trans (congrArg some (by kernel_rfl))
 f320:=Tryd.func121.trans (congrArg some (by kernel_rfl))
 f337:=Tryd.func143.trans (congrArg some (by kernel_rfl))
 f338:=Tryd.func144.trans (congrArg some (by kernel_rfl))
 t0:=Tryd.underlying0
 a0:=Tryd.isAgg0
 z0:=Tryd.sizeOf0
 v0:=Tryd.zeroValue0
 t2:=Tryd.underlying2
 a2:=Tryd.isAgg2
 z2:=Tryd.sizeOf2
 v2:=Tryd.zeroValue2
 t3:=Tryd.underlying3
 a3:=Tryd.isAgg3
 z3:=Tryd.sizeOf3
 v3:=Tryd.zeroValue3
 t4:=Tryd.underlying4
 a4:=Tryd.isAgg4
 z4:=Tryd.sizeOf4
 v4:=Tryd.zeroValue4
 t5:=Tryd.underlying5
 a5:=Tryd.isAgg5
 z5:=Tryd.sizeOf5
 v5:=Tryd.zeroValue5
 t9:=Tryd.underlying9
 a9:=Tryd.isAgg9
 z9:=Tryd.sizeOf9
 v9:=Tryd.zeroValue9
 t20:=Tryd.underlying20
 a20:=Tryd.isAgg20
 z20:=Tryd.sizeOf20
 v20:=Tryd.zeroValue20
 t37:=Tryd.underlying71
 a37:=Tryd.isAgg71
 z37:=Tryd.sizeOf71
 v37:=Tryd.zeroValue71
 t46:=Tryd.underlying97
 a46:=Tryd.isAgg97
 z46:=Tryd.sizeOf97
 v46:=Tryd.zeroValue97
 t51:=Tryd.underlying117
 a51:=Tryd.isAgg117
 z51:=Tryd.sizeOf117
 v51:=Tryd.zeroValue117
 t53:=Tryd.underlying94
 a53:=Tryd.isAgg94
 z53:=Tryd.sizeOf94
 v53:=Tryd.zeroValue94
 t171:=Tryd.underlying128
 a171:=Tryd.isAgg128
 z171:=Tryd.sizeOf128
 v171:=Tryd.zeroValue128
 t173:=Tryd.underlying131
 a173:=Tryd.isAgg131
 z173:=Tryd.sizeOf131
 v173:=Tryd.zeroValue131
 t212:=Tryd.underlying140
 a212:=Tryd.isAgg140
 z212:=Tryd.sizeOf140
 v212:=Tryd.zeroValue140
 t213:=Tryd.underlying141
 a213:=Tryd.isAgg141
 z213:=Tryd.sizeOf141
 t232:=Tryd.underlying169
 a232:=Tryd.isAgg169
 z232:=Tryd.sizeOf169
 v232:=Tryd.zeroValue169
 t233:=Tryd.underlying170
 a233:=Tryd.isAgg170
 z233:=Tryd.sizeOf170
 v233:=Tryd.zeroValue170
 g17:=by kernel_rfl
 g18:=by kernel_rfl
 g19:=by kernel_rfl
 i0:=by kernel_rfl
 i2:=by kernel_rfl
 i3:=by kernel_rfl
 i4:=by kernel_rfl
 i5:=by kernel_rfl
 i9:=by kernel_rfl
 i20:=by kernel_rfl
 i37:=by kernel_rfl
 i46:=by kernel_rfl
 i51:=by kernel_rfl
 i53:=by kernel_rfl
 i171:=by kernel_rfl
 i173:=by kernel_rfl
 i212:=by kernel_rfl
 i232:=by kernel_rfl
 i233:=by kernel_rfl
 m17:=by kernel_rfl
 m18:=by kernel_rfl
 m19:=by kernel_rfl}
open Go.RowKit Go.Sort Go.Lib in
theorem Tryd.strconv_Itoa (n:Int) (h0: -9223372036854775808≤n) (h1:n≤9223372036854775807) (w:World) (htab:Lib.TabIs Tryd.prog w "internal/strconv.uint64pow10" .u64 Lib.pow10Tab):
 Calls Tryd.prog 54 #[.int .i64 n] w fun e w'=>e= .returned (.string ⟨(Lib.itoa n).toArray⟩)∧∃k os,w'=grow (w.drewN k) os:=Any.strconv_Itoa Tryd.SX n h0 h1 w htab
def Tryd.Mw:Go.Shelf.Ren:=⟨fun|173=>53|246=>83|283=>105|284=>106|285=>107|286=>108|129=>118|317=>117|318=>119|319=>120|320=>121|337=>143|338=>144|n=>n,fun|2=>2|3=>3|9=>9|4=>4|171=>128|0=>0|53=>94|37=>71|5=>5|173=>131|212=>140|51=>117|20=>20|213=>141|46=>97|232=>169|233=>170|n=>n,fun|17=>0|18=>2|19=>3|n=>n⟩
theorem Tryd.SY:Go.Proofs.LaysM.n173 Tryd.prog Tryd.Mw:= {
 mixed:=by kernel_rfl
 f129:=Tryd.func118.trans (congrArg some (by kernel_rfl))
 f173:=Tryd.func53.trans (congrArg some (by kernel_rfl))
 f246:=Tryd.func83.trans (congrArg some (by kernel_rfl))
 f283:=Tryd.func105.trans (congrArg some (by kernel_rfl))
 f284:=Tryd.func106.trans (congrArg some (by kernel_rfl))
 f285:=Tryd.func107.trans (congrArg some (by kernel_rfl))
 f286:=Tryd.func108.trans (congrArg some (by kernel_rfl))
 f317:=Tryd.func117.trans (congrArg some (by kernel_rfl))
 f318:=Tryd.func119.trans (congrArg some (by kernel_rfl))
 f319:=Tryd.func120.trans (congrArg some (by kernel_rfl))
 f320:=Tryd.func121.trans (congrArg some (by kernel_rfl))
 f337:=Tryd.func143.trans (congrArg some (by kernel_rfl))
 f338:=Tryd.func144.trans (congrArg some (by kernel_rfl))
 t0:=Tryd.underlying0
 a0:=Tryd.isAgg0
 z0:=Tryd.sizeOf0
 v0:=Tryd.zeroValue0
 t2:=Tryd.underlying2
 a2:=Tryd.isAgg2
 z2:=Tryd.sizeOf2
 v2:=Tryd.zeroValue2
 t3:=Tryd.underlying3
 a3:=Tryd.isAgg3
 z3:=Tryd.sizeOf3
 v3:=Tryd.zeroValue3
 t4:=Tryd.underlying4
 a4:=Tryd.isAgg4
 z4:=Tryd.sizeOf4
 v4:=Tryd.zeroValue4
 t5:=Tryd.underlying5
 a5:=Tryd.isAgg5
 z5:=Tryd.sizeOf5
 v5:=Tryd.zeroValue5
 t9:=Tryd.underlying9
 a9:=Tryd.isAgg9
 z9:=Tryd.sizeOf9
 v9:=Tryd.zeroValue9
 t20:=Tryd.underlying20
 a20:=Tryd.isAgg20
 z20:=Tryd.sizeOf20
 v20:=Tryd.zeroValue20
 t37:=Tryd.underlying71
 a37:=Tryd.isAgg71
 z37:=Tryd.sizeOf71
 v37:=Tryd.zeroValue71
 t46:=Tryd.underlying97
 a46:=Tryd.isAgg97
 z46:=Tryd.sizeOf97
 v46:=Tryd.zeroValue97
 t51:=Tryd.underlying117
 a51:=Tryd.isAgg117
 z51:=Tryd.sizeOf117
 v51:=Tryd.zeroValue117
 t53:=Tryd.underlying94
 a53:=Tryd.isAgg94
 z53:=Tryd.sizeOf94
 v53:=Tryd.zeroValue94
 t171:=Tryd.underlying128
 a171:=Tryd.isAgg128
 z171:=Tryd.sizeOf128
 v171:=Tryd.zeroValue128
 t173:=Tryd.underlying131
 a173:=Tryd.isAgg131
 z173:=Tryd.sizeOf131
 v173:=Tryd.zeroValue131
 t212:=Tryd.underlying140
 a212:=Tryd.isAgg140
 z212:=Tryd.sizeOf140
 v212:=Tryd.zeroValue140
 t213:=Tryd.underlying141
 a213:=Tryd.isAgg141
 z213:=Tryd.sizeOf141
 t232:=Tryd.underlying169
 a232:=Tryd.isAgg169
 z232:=Tryd.sizeOf169
 v232:=Tryd.zeroValue169
 t233:=Tryd.underlying170
 a233:=Tryd.isAgg170
 z233:=Tryd.sizeOf170
 v233:=Tryd.zeroValue170
 g17:=by kernel_rfl
 g18:=by kernel_rfl
 g19:=by kernel_rfl
 i0:=by kernel_rfl
 i2:=by kernel_rfl
 i3:=by kernel_rfl
 i4:=by kernel_rfl
 i5:=by kernel_rfl
 i9:=by kernel_rfl
 i20:=by kernel_rfl
 i37:=by kernel_rfl
 i46:=by kernel_rfl
 i51:=by kernel_rfl
 i53:=by kernel_rfl
 i171:=by kernel_rfl
 i173:=by kernel_rfl
 i212:=by kernel_rfl
 i232:=by kernel_rfl
 i233:=by kernel_rfl
 m17:=by kernel_rfl
 m18:=by kernel_rfl
 m19:=by kernel_rfl}
open Go.RowKit Go.Sort Go.Lib in
theorem Tryd.strconv_FormatInt_10 (n:Int) (h0: -9223372036854775808≤n) (h1:n≤9223372036854775807) (w:World) (htab:Lib.TabIs Tryd.prog w "internal/strconv.uint64pow10" .u64 Lib.pow10Tab):
 Calls Tryd.prog 53 #[.int .i64 n,.int .i64 10] w fun e w'=>e= .returned (.string ⟨(Lib.itoa n).toArray⟩)∧∃k os,w'=grow (w.drewN k) os:=Any.strconv_FormatInt_10 Tryd.SY n h0 h1 w htab
def Tryd.P3:Go.Shelf.Ren:=⟨fun|6=>86|15=>110|14=>109|28=>130|29=>118|20=>122|21=>123|22=>124|23=>125|24=>126|25=>127|26=>128|27=>129|46=>145|47=>146|48=>147|49=>148|50=>149|57=>153|n=>n,fun|22=>31|24=>49|25=>92|3=>3|39=>97|0=>0|53=>117|55=>94|4=>4|46=>144|45=>143|50=>148|5=>5|9=>9|66=>161|70=>63|76=>171|77=>172|n=>n,fun|n=>n⟩
theorem Tryd.TH:Go.Proofs.SlLaysF0.n6 Tryd.prog Tryd.P3:= {
 mixed:=by kernel_rfl
 f6:=⟨Tryd.f86.name,by decide,Tryd.func86.trans (congrArg some (by kernel_rfl))⟩
 f14:=⟨Tryd.f109.name,by decide,Tryd.func109.trans (congrArg some (by kernel_rfl))⟩
 f15:=Tryd.func110.trans (congrArg some (by kernel_rfl))
 f20:=⟨Tryd.f122.name,by decide,Tryd.func122.trans (congrArg some (by kernel_rfl))⟩
 f21:=⟨Tryd.f123.name,by decide,Tryd.func123.trans (congrArg some (by kernel_rfl))⟩
 f22:=⟨Tryd.f124.name,by decide,Tryd.func124.trans (congrArg some (by kernel_rfl))⟩
 f23:=⟨Tryd.f125.name,by decide,Tryd.func125.trans (congrArg some (by kernel_rfl))⟩
 f24:=⟨Tryd.f126.name,by decide,Tryd.func126.trans (congrArg some (by kernel_rfl))⟩
 f25:=⟨Tryd.f127.name,by decide,Tryd.func127.trans (congrArg some (by kernel_rfl))⟩
 f26:=⟨Tryd.f128.name,by decide,Tryd.func128.trans (congrArg some (by kernel_rfl))⟩
 f27:=⟨Tryd.f129.name,by decide,Tryd.func129.trans (congrArg some (by kernel_rfl))⟩
 f28:=Tryd.func130.trans (congrArg some (by kernel_rfl))
 f29:=Tryd.func118.trans (congrArg some (by kernel_rfl))
 f46:=⟨Tryd.f145.name,by decide,Tryd.func145.trans (congrArg some (by kernel_rfl))⟩
 f47:=Tryd.func146.trans (congrArg some (by kernel_rfl))
 f48:=Tryd.func147.trans (congrArg some (by kernel_rfl))
 f49:=⟨Tryd.f148.name,by decide,Tryd.func148.trans (congrArg some (by kernel_rfl))⟩
 f50:=⟨Tryd.f149.name,by decide,Tryd.func149.trans (congrArg some (by kernel_rfl))⟩
 f57:=⟨Tryd.f153.name,by decide,Tryd.func153.trans (congrArg some (by kernel_rfl))⟩
 t0:=Tryd.underlying0
 a0:=Tryd.isAgg0
 z0:=Tryd.sizeOf0
 v0:=Tryd.zeroValue0
 t3:=Tryd.underlying3
 a3:=Tryd.isAgg3
 z3:=Tryd.sizeOf3
 v3:=Tryd.zeroValue3
 t4:=Tryd.underlying4
 a4:=Tryd.isAgg4
 z4:=Tryd.sizeOf4
 v4:=Tryd.zeroValue4
 t5:=Tryd.underlying5
 a5:=Tryd.isAgg5
 z5:=Tryd.sizeOf5
 v5:=Tryd.zeroValue5
 t9:=Tryd.underlying9
 a9:=Tryd.isAgg9
 z9:=Tryd.sizeOf9
 v9:=Tryd.zeroValue9
 t22:=Tryd.underlying31
 a22:=Tryd.isAgg31
 z22:=Tryd.sizeOf31
 v22:=Tryd.zeroValue31
 t25:=Tryd.underlying92
 a25:=Tryd.isAgg92
 z25:=Tryd.sizeOf92
 v25:=Tryd.zeroValue92
 t39:=Tryd.underlying97
 a39:=Tryd.isAgg97
 z39:=Tryd.sizeOf97
 v39:=Tryd.zeroValue97
 t45:=Tryd.underlying143
 a45:=Tryd.isAgg143
 z45:=Tryd.sizeOf143
 v45:=Tryd.zeroValue143
 t46:=Tryd.underlying144
 a46:=Tryd.isAgg144
 z46:=Tryd.sizeOf144
 v46:=Tryd.zeroValue144
 t50:=Tryd.underlying148
 a50:=Tryd.isAgg148
 z50:=Tryd.sizeOf148
 v50:=Tryd.zeroValue148
 t53:=Tryd.underlying117
 a53:=Tryd.isAgg117
 z53:=Tryd.sizeOf117
 v53:=Tryd.zeroValue117
 t55:=Tryd.underlying94
 a55:=Tryd.isAgg94
 z55:=Tryd.sizeOf94
 v55:=Tryd.zeroValue94
 t66:=Tryd.underlying161
 a66:=Tryd.isAgg161
 z66:=Tryd.sizeOf161
 v66:=Tryd.zeroValue161
 t70:=Tryd.underlying63
 a70:=Tryd.isAgg63
 z70:=Tryd.sizeOf63
 v70:=Tryd.zeroValue63
 t76:=Tryd.underlying171
 a76:=Tryd.isAgg171
 z76:=Tryd.sizeOf171
 v76:=Tryd.zeroValue171
 t77:=Tryd.underlying172
 a77:=Tryd.isAgg172
 z77:=Tryd.sizeOf172
 v77:=Tryd.zeroValue172}
def Tryd.Og:Go.Shelf.Ren:=⟨fun|5=>64|7=>89|n=>n,fun|22=>3|3=>3|4=>4|n=>n,fun|n=>n⟩
theorem Tryd.Uv:Go.Proofs.SlLaysC2.n5 Tryd.prog Tryd.Og:= {
 mixed:=by kernel_rfl
 f5:=⟨Tryd.f64.name,by decide,Tryd.func64.trans (congrArg some (by kernel_rfl))⟩
 f7:=⟨Tryd.f89.name,by decide,Tryd.func89.trans (congrArg some (by kernel_rfl))⟩
 t3:=Tryd.underlying3
 a3:=Tryd.isAgg3
 z3:=Tryd.sizeOf3
 v3:=Tryd.zeroValue3
 t4:=Tryd.underlying4
 a4:=Tryd.isAgg4
 z4:=Tryd.sizeOf4
 v4:=Tryd.zeroValue4
 t22:=Tryd.underlying3
 a22:=Tryd.isAgg3
 z22:=Tryd.sizeOf3
 v22:=Tryd.zeroValue3}
end Go.Proofs
