/- Contracts of the library's functions, carried over to abstract states. What the cards of this seat share: the laid variables. Data types of package api as plain data. Names and arities, in plain data. The compact codes of the functions of this seat, computed out of the translation. Conditions: none. -/
import Derived.Test.YtifplkldbbcldaaGreatDoorCards
import Derived.Test.YtifplkldbbcldaaGreatDoorTie
import Derived.LaidMore
import Derived.OpenShut
import Derived.Stop.Joined
import Derived.Stop.LaidErr
import Derived.Test.YtifplkldbbcldaaGreatDoorProg
import Derived.KernelRfl
import Derived.Test.YtifplkldbbcldaaGreatDoorXCdQp
set_option linter.unusedSimpArgs false
set_option linter.unusedVariables false
set_option maxRecDepth 4000
set_option maxHeartbeats 8000000
open Nat renaming lt_of_lt_of_le→Ud,le_trans→BC,add_zero→Fz
open List renaming getElem?_map→Ay,getElem?_eq_some_iff→Aa,length_map→AF,mem_cons_self→Ad,mem_cons_of_mem→Ah,take_append_drop→Ek
open Option renaming map_eq_some_iff→AK,isSome_iff_exists→Wk,bind_some→B3
open Option.some renaming injEq→AR,inj→Gv
open Bool renaming and_eq_true→AN,eq_iff_iff→Gr
namespace Go.Ab
open Go.RowKit Go.Sort Go.Proofs
theorem Rel.below {base:Nat} {g:Gh} {Pr:Nat→Prop} {σ:AM} {w0 w w':World} (h:Rel base g Pr σ w0 w) (hb:Below w.heap.size w w'):Rel base g Pr σ w0 w'∧KP Pr w w':=
 ⟨h.grow hb.size (fun b hlt _=>hb.block b hlt) ⟨hb.os,hb.tape,hb.output,hb.size,fun b hlt=>hb.block b (Ud hlt h.bs)⟩ (fun b hp=>⟨Ud (h.pr b hp).1 hb.size,.inl hp⟩),hb.size,fun b hp=>hb.block b (h.pr b hp).1⟩
def bys (s:List UInt8):ByteArray:=⟨s.toArray⟩
theorem dC (l:List (List UInt8)):(l.map bys).map (·.data.toList)=l:=by
 rw [List.map_map]
 conv=>rhs;rw [← List.map_id l]
 rfl
theorem jO (l:List (List UInt8)) (sep:List UInt8) (σ:AM) (hN:l.length≤100000) (hlen:(Lib.join l sep).length≤100000000000000):
 AQ Tryz.prog 44 [.d (.sl (l.map Dt)),.d (.str sep)] σ (fun v σ'=>v= .d (.str (Lib.join l sep))∧σ'=σ):=by
 intro base g Pr w0 w vs hr hv
 obtain ⟨v,u,rfl,h1,h2⟩:=hv.two
 have hlen':(Lib.join l sep).length≤maxLen:=BC hlen (by decide+kernel)
 cases h2 with|d h2=>cases h2 with|str _=>
 have fin:∀w',Below w.heap.size w w'→∃v av g' σ',(Ending.returned (.string ⟨(Lib.join l sep).toArray⟩))=Ending.returned v∧VR g' av v∧Rel base g' Pr σ' w0 w'∧g.le g'∧KP Pr w w'∧av= .d (.str (Lib.join l sep))∧σ'=σ:=fun w' hb=>by
  obtain ⟨k1,k2⟩:=hr.below hb
  exact ⟨_,_,g,σ,rfl,.d (.str hlen'),k1,Gh.le_refl g,k2,rfl,rfl⟩
 cases l with
 |nil=>
  cases h1 with|d h1=>
  obtain ⟨a,cap,rfl,_⟩:=h1.Ki
  refine Calls.mono (show Calls Tryz.prog 44 #[.slice a 0 cap,.string ⟨sep.toArray⟩] w _ from Any.strings_Join_none Tryz.j7 Tryz.Nw a cap ⟨sep.toArray⟩ w) ?_
  rintro e w' ⟨rfl,rfl⟩
  exact fin _ (Below.refl _ _)
 |cons x l=>
  cases h1 with|d h1=>
  generalize hrows:List.map Dt (x::l)=rows at h1
  cases h1 with
  |nil=>simp at hrows
  |@sl rows b off cap size f hc hm hs hi hrd=>
   subst hrows
   have hs1:size=1:=by
    have:=hs (Dt x) (by simp)
    simpa [Dt] using this.symm
   subst hs1
   have hcell:∀(j:Nat) (y:ByteArray),((x::l).map bys)[j]?=some y→w.cell? ⟨b,off+j,none⟩=some (.string y):=by
    intro j y hy
    rw [Ay,AK] at hy
    obtain ⟨s,hsj,rfl⟩:=hy
    have hjl:j < ((x::l).map Dt).length:=by
     have:=(Aa.1 hsj).1
     simpa using this
    have h3:=hi j 0 hjl (by omega)
    have h4:=hrd j (Dt s) 0 (.str s) (by rw [Ay,hsj];rfl) rfl
    generalize f j 0=fv at h3 h4
    cases h4
    have:=hr.im _ _ _ h3
    rw [Nat.mul_one,Fz] at this
    exact this
   have hbk:b < w.heap.size:=by
    have h3:=hi 0 0 (by simp) (by omega)
    exact hr.SN h3
   have hc':((x::l).map bys).length≤cap:=by simpa using hc
   have hcon:=Any.strings_Join Tryz.j7 Tryz.Nw b off cap ((x::l).map bys) ⟨sep.toArray⟩ w hcell hbk (by simp at hN ⊢;omega) hc' (by rw [dC];simp only [List.toList_toArray];omega)
   rw [dC] at hcon
   rw [AF] at hcon ⊢
   refine Calls.mono hcon ?_
   rintro e w' ⟨rfl,hb⟩
   exact fin _ hb
def UZ:Array Value:=(Lib.pow10Tab.map fun z=>Value.int .u64 z).toArray
def SX:Nat:=1
def Xr:Nat:=4
theorem WJ:Tryz.prog.globalNamed "internal/strconv.uint64pow10"=some SX:=by kernel_rfl
theorem Lb (n:Int) (σ:AM) (ht:σ.gt SX=some UZ):AQ Tryz.prog 146 [.d (.int .i64 n),.d (.int .i64 10)] σ (fun v σ'=>v= .d (.str (Lib.itoa n))∧σ'=σ):=by
 refine AQ.uV (fun base g Pr w0 w vs hr hv=>?_)
 obtain ⟨v,u,rfl,hvv,hu⟩:=hv.two
 obtain ⟨rfl,h⟩:=hvv.XU
 obtain ⟨rfl,_⟩:=hu.XU
 have h0: -9223372036854775808≤n:=h.1
 have h1:n≤9223372036854775807:=h.2
 exact ⟨_,.str (by have:=Lib.itoa_length_le n h0 h1;have:(21:Nat)≤maxLen:=by decide+kernel
                   omega),Any.strconv_FormatInt_10 Tryz.qE n h0 h1 w (hr.tab WJ ht)⟩
theorem Uw {σ:AM} {i:Nat} {s:AV} {ty:TypeId} (hb:σ.blk i=some [.gp i 0,s]) (ht:σ.bt i=some (2,ty)):AQ Tryz.prog 85 [.gp i 0] σ (fun v σ'=>v= .tup []∧σ'=σ):=
 gK (fun b w h=>Any.Builder_copyCheck_used Tryz.j8 Tryz.Qf b w h) hb ht
theorem VRs.three {g:Gh} {c d e:AV} {vs:List Value} (h:VRs g [c,d,e] vs):∃v u x,vs=[v,u,x]∧VR g c v∧VR g d u∧VR g e x:=by
 cases h with|cons h hs=>obtain ⟨u,x,rfl,hu,hx⟩:=hs.two;exact ⟨_,_,_,rfl,h,hu,hx⟩
def eL (s:Str):Prop:=s=[]∨(s≠[]∧(∀x∈s,FW Ix x=true)∧(HV s 0).isSome=true∧s.length≤20000)
theorem q7:∀(s:Str) (acc:Nat) (v:Int),(∀x∈s,FW Ix x=true)→HV s (acc:Int)=some v→acc≤1000000→∃m:Nat,v=(m:Int)∧Lib.parseUintM (2 ^ 64 - 1) acc s= .ok m∧m≤1000000
 |[],acc,v,_,h,ha=>by
  simp only [HV,AR] at h
  exact ⟨acc,h.symm,rfl,ha⟩
 |b::r,acc,v,hd,h,ha=>by
  have hb:=hd b (Ad ..)
  simp only [FW,Ix,AN,decide_eq_true_eq] at hb
  have hw:IntKind.u8.wrap ((b.toNat:Int) - 48)=((b.toNat - 48:Nat):Int):=by
   have h1:IntKind.u8.wrap ((b.toNat:Int) - 48)=((b.toNat:Int) - 48) % 256:=rfl
   rw [h1];omega
  rw [HV,hw] at h
  split at h
  · cases h
  · rename_i hle
    have e1:(acc:Int) * 10+((b.toNat - 48:Nat):Int)=((acc * 10+(b.toNat - 48):Nat):Int):=by omega
    rw [e1] at h hle
    obtain ⟨m,h1,h2,h3⟩:=q7 r _ v (fun x hx=>hd x (Ah _ hx)) h (by omega)
    refine ⟨m,h1,?_,h3⟩
    rw [Lib.parseUintM,if_pos (by omega),if_neg (by omega),if_neg (by omega)]
    exact h2
theorem kK {s:Str} (hn:s≠[]) (hd:∀x∈s,FW Ix x=true) (hv:(HV s 0).isSome=true):Lib.parseIntB 64 s= .ok (RP s)∧0≤RP s∧RP s≤1000000:=by
 obtain ⟨v,hv⟩:=Wk.1 hv
 obtain ⟨m,h1,h2,h3⟩:=q7 s 0 v hd hv (by omega)
 have e:RP s=(m:Int):=by rw [RP,hv,← h1];rfl
 rw [e]
 refine ⟨?_,by omega,by omega⟩
 match s,hn with
 |c::r,_=>
  have hb:=hd c (Ad ..)
  simp only [FW,Ix,AN,decide_eq_true_eq] at hb
  have hc:¬(c.toNat=43∨c.toNat=45):=by omega
  have h45:¬c.toNat=45:=by omega
  have h43:¬c.toNat=43:=by omega
  simp only [Lib.parseIntB,h43,or_self,if_false,Lib.parseUintB,List.cons_ne_nil,if_false,h2,h45,not_false_eq_true,true_and,false_and]
  rw [if_neg (by omega)]
theorem qZ:RP []=0:=rfl
theorem kJ {s:Str} (h:eL s):0≤RP s∧RP s≤1000000:=by
 rcases h with rfl|⟨h1,h2,h3⟩
 · rw [qZ];omega
 · exact (kK h1 h2 h3.1).2
theorem cV (s:Str) (σ:AM) (hs:eL s) (he:∃te pe,σ.gt Xr=some #[.iface te pe]):
 AQ Tryz.prog 215 [.d (.str s),.d (.int .i64 10),.d (.int .i64 64)] σ (fun v σ'=>v= .tup [.d (.int .i64 (RP s)),.undef]∧σ'=σ):=by
 intro base g Pr w0 w vs hr hv
 obtain ⟨v,u,x,rfl,h1,h2,h3⟩:=hv.three
 cases h1 with|d h1=>cases h1 with|str hsl=>
 obtain ⟨rfl,_⟩:=h2.XU
 obtain ⟨rfl,_⟩:=h3.XU
 have hnum:IntKind.i64.has (RP s):=by
  have:=kJ hs
  exact ⟨by show (-9223372036854775808:Int)≤_;omega,by show _≤(9223372036854775807:Int);omega⟩
 have fin:∀(y:Value) (w':World),Below w.heap.size w w'→∃v av g' σ',(Ending.returned (.tuple #[.int .i64 (RP s),y]))=Ending.returned v∧VR g' av v∧Rel base g' Pr σ' w0 w'∧g.le g'∧KP Pr w w'∧av= .tup [.d (.int .i64 (RP s)),.undef]∧σ'=σ:=fun y w' hb=>by
  obtain ⟨k1,k2⟩:=hr.below hb
  refine ⟨_,_,g,σ,rfl,VR.tup (vs:=[.int .i64 (RP s),y]) rfl (fun i c v hc hv=>?_),k1,Gh.le_refl g,k2,rfl,rfl⟩
  match i,hc,hv with
  |0,hc,hv=>simp at hc hv;subst hc hv;exact .d (.int hnum)
  |1,hc,hv=>simp at hc hv;subst hc;exact .undef
  |i+2,hc,hv=>simp at hc
 rcases hs with rfl|⟨g1,g2,g3⟩
 · obtain ⟨te,pe,hg⟩:=he
   obtain ⟨hlt,ty,fr,hc⟩:=hr.st.1 Xr _ hg
   have hcell:w.cell? ⟨Xr,0,none⟩=some (.iface te pe):=by
    unfold World.cell?
    rw [hr.bel.block Xr hlt,hc];rfl
   refine Calls.mono (Any.strconv_ParseInt_10_at64_syntax Tryz.eE ⟨#[]⟩ (by decide) rfl (.iface te pe) w hcell (.inr ⟨te,pe,rfl⟩)) ?_
   rintro e w' ⟨N,rfl,_,_,hb⟩
   exact fin _ w' hb
 · refine Calls.mono (Any.strconv_ParseInt_10_at64_ok Tryz.eE ⟨s.toArray⟩ (by rw [UB];have:=g3.2;omega) (RP s) (by simpa using (kK g1 g2 g3.1).1) w) ?_
   rintro e w' ⟨rfl,hw⟩
   refine fin _ w' ?_
   rcases hw with rfl|⟨t,rfl⟩
   · exact Below.refl _ _
   · exact Lib.bytesWorld_below _ _ _
end Go.Ab
namespace Go.Ab
open Go.Proofs
def gtT (te:TypeId) (pe:Value):Nat→Option (Array Value):=fun b=>if b=SX then some UZ else if b=Xr then some #[.iface te pe] else none
theorem tJ (te:TypeId) (pe:Value):(MC (gtT te pe)).gt SX=some UZ:=by simp [MC,gtT]
theorem tI (te:TypeId) (pe:Value):∃te' pe',(MC (gtT te pe)).gt Xr=some #[.iface te' pe']:=⟨te,pe,by simp [MC,gtT,SX,Xr]⟩
end Go.Ab
namespace Go.Proofs.YtifplkldbbcldaaGreatDoor
open Go.ChangeShapes Go.WideShapes Go.ChangeAt Go.RowKit
theorem Tryz.own:ownKnob Tryz.prog.godebug=none:=by kernel_rfl
theorem Tryz.laidOut:laidOutB Tryz.prog=true:=by kernel_rfl
def eD:List (String×DataW Unit):=[("math/bits.deBruijn32tab",Rows.laid_math_bits_deBruijn32tab),("math/bits.deBruijn64tab",Rows.laid_math_bits_deBruijn64tab),("internal/strconv.uint64pow10",Rows.laid_internal_strconv_uint64pow10),("strconv.ErrRange",Rows.laid_strconv_ErrRange),("strconv.ErrSyntax",Rows.laid_strconv_ErrSyntax)]
theorem rI:(Tryz.prog.globals[Go.Ab.SX]?).map (·.type)=some 193:=by kernel_rfl
theorem Zl:Tryz.prog.globalNamed "strconv.ErrSyntax"=some Go.Ab.Xr:=by kernel_rfl
theorem pO:(Tryz.prog.globals[Go.Ab.Xr]?).map (·.type)=some 90:=by kernel_rfl
theorem dK: "*"++ "errors.errorString"= "*errors.errorString":=by decide
theorem tF (u:TypeId) (h:Tryz.prog.typeName? 3 u=some "*errors.errorString"):u=218:=
 typeName_ptr_named (nm:= "errors.errorString") (by rw [dK];kernel_rfl) (by kernel_rfl) (by decide) u (by rw [dK];exact h)
theorem pL (os:Os) (args:Array Value):laidMetH Tryz.prog eD ((World.doorLaid Tryz.prog 400 os).forCall (fun _ _=>0) ⟨#[],args,[]⟩).memory:=
 laidMetH_of_parts3 (fuel:=8) (laidMet_of_run' 8 (by kernel_rfl) (by kernel_rfl)) (by kernel_rfl) (by kernel_rfl)
theorem aN {W:World} {n:String} {g:Nat} {cs:Array Value} (hg:Tryz.prog.globalNamed n=some g) (h:W.var? Tryz.prog n=some cs):∃ty fr,W.heap[g]?=some (.cells cs ty fr):=by
 unfold World.var? at h
 rw [hg,B3] at h
 cases hh:W.heap[g]? with
 |none=>rw [hh] at h;cases h
 |some o=>
  rw [hh] at h
  cases o<;>try (cases h;done)
  rename_i vs ty fr
  have:vs=cs:=by simpa using h
  subst this
  exact ⟨ty,fr,rfl⟩
theorem tK {W:World} (h:laidMetH Tryz.prog eD W):∃te pe,∀b vs,Go.Ab.gtT te pe b=some vs→∃ty fr,W.heap[b]?=some (.cells vs ty fr):=by
 rw [MakeChecks.laidMetH_plain _ _ _ (by kernel_rfl)] at h
 obtain ⟨a,s,he,_⟩:=laid_sentinel (g:=Go.Ab.Xr) h.tail.tail.tail.tail Zl pO Tryz.underlying90 tF Tryz.underlying218 Tryz.underlying220 rfl rfl Tryz.underlying9 (by kernel_rfl) (by kernel_rfl)
 refine ⟨218,.pointer (some a),fun b vs hb=>?_⟩
 obtain ⟨ps,⟨g0,t0,cs0,f0,p0,q0,hg0,ht0,hv0,hd0,⟨g1,t1,cs1,f1,p1,q1,hg1,ht1,hv1,hd1,⟨g2,t2,cs2,f2,p2,q2,hg2,ht2,hv2,hd2,_,_⟩,_⟩,_⟩,_,_⟩:=h
 obtain rfl:=Gv (Go.Ab.WJ.symm.trans hg2)
 obtain rfl:=Gv (rI.symm.trans ht2)
 have hc:=Lib.cells_of_tab (k:= .u64) (zs:=Lib.pow10Tab) Tryz.underlying193 Tryz.underlying183 (by kernel_rfl) (by kernel_rfl) (show DataW.trod _ _ _ _ _ _ _ _ _=some (Lib.tabData .u64 Lib.pow10Tab,p2) from hd2)
 have hcs:cs2=Go.Ab.UZ:=by
  apply Array.toList_inj.1
  rw [hc];rfl
 unfold Go.Ab.gtT at hb
 split at hb
 · rename_i e
   subst e
   cases hb
   rw [hcs] at hv2
   exact aN Go.Ab.WJ hv2
 · split at hb
   · rename_i e
     subst e
     cases hb
     exact aN Zl he
   · cases hb
end Go.Proofs.YtifplkldbbcldaaGreatDoor
namespace Go.Ab
structure Con where
 name:List UInt8
 args:List Ty
structure Dat where
 name:List UInt8
 vars:Int
 cons:List Con
def Con.enc (c:Con):List DV:=[.str c.name,.sl (Ty.Nh c.args)]
def Dat.enc (d:Dat):List DV:=[.str d.name,.int .i64 d.vars,.sl (d.cons.map Con.enc)]
theorem Kh (l:List Ty) (i:Nat):Ty.At (l.take i)≤Ty.At l:=by
 have:=Cr (l.take i) (l.drop i)
 rw [Ek] at this;omega
theorem w8 {σ:AM} {i:Nat} {z:List AV} {x:Nat×TypeId} (h:σ.blk i=none∧σ.bt i=none):σ.le ((σ.AL i z).Gq i x)∧((σ.AL i z).Gq i x).blk i=some z:=
 ⟨⟨fun j cs hj=>by
    have hne:j≠i:=fun e=>by rw [e,h.1] at hj;cases hj
    simp [AM.Gq,AM.AL,hne,hj],fun _ h=>h,rfl,fun j y hj=>by
    have hne:j≠i:=fun e=>by rw [e,h.2] at hj;cases hj
    simp [AM.Gq,AM.AL,hne,hj]⟩,by simp [AM.Gq,AM.AL]⟩
theorem hI {σ σ1:AM} {i:Nat} {cs:List AV} (h:σ.le σ1) (hn:σ.blk i=none):σ.le (σ1.AL i cs):=
 ⟨fun j ds hj=>by
   have hne:j≠i:=fun e=>by rw [e,hn] at hj;cases hj
   rw [AO,if_neg hne];exact h.blk j ds hj,h.tok,h.gt,h.bt⟩
theorem C9 (a b:List UInt8):cN .eql a b=some (.d (.bool (a==b))):=rfl
theorem BS (a b:List UInt8):cN .neq a b=some (.d (.bool (!(a==b)))):=rfl
theorem gtN (n k:Nat):decide ((k:Int) < (n:Int))=!decide (n≤k):=by
 rw [Gr];simp
theorem leN (n k:Nat):decide ((n:Int)≤(k:Int))=decide (n≤k):=decide_eq_decide.2 (by omega)
theorem ltN (n k:Nat):decide ((n:Int) < (k:Int))=decide (n < k):=decide_eq_decide.2 (by omega)
theorem Ds {a b:Int} (h:a≠b):(a==b)=false:=by simpa using h
end Go.Ab
namespace Go.Ab
def l9 (o:Option Nat):Int:=match o with|some i=>i|none=>-1
def Ex.op:Ex→Int| .mk o _ _ _ _ _=>o
def Ex.num:Ex→Int| .mk _ _ u _ _ _=>u
def Ex.name:Ex→Str| .mk _ n _ _ _ _=>n
def Ex.names:Ex→List Str| .mk _ _ _ ns _ _=>ns
def Ex.kids:Ex→List Ex| .mk _ _ _ _ ks _=>ks
def Ex.alts:Ex→List Al| .mk _ _ _ _ _ al=>al
def Al.con:Al→Str| .mk c _ _=>c
def Al.vars:Al→List Str| .mk _ vs _=>vs
def Al.body:Al→Ex| .mk _ _ b=>b
end Go.Ab
namespace Go.Ab
open Go.Proofs
variable {args:List AV} {σ:AM} {K:AV→AM→Prop}
def Pn:C:=(.seq (.reg [Qo 2 (.box (.t 0) false),
 Qo 3 (.box (.t 1) false),
 Qo 4 (.mv (.c (.d (.bool false))))] [2,3])
 (.seq (.seq (.reg [Qo 5 (.ldl (.t 2) (some 2)),
 Qo 6 (.call 16 [(.t 5)]),
 Qo 7 (.un .not (.t 6)),
 Qm 8 7,
 ⟨some 9,.ldl (.t 3) (some 2),some (8,false)⟩,
 ⟨some 10,.call 16 [(.t 9)],some (8,false)⟩,
 ⟨some 11,.un .not (.t 10),some (8,false)⟩,
 Qo 12 (.pick (.t 8) (.c (.d (.bool true))) (.t 11))] [2,3,12])
 (.cond (.t 12) (.seq (.reg [Qo 4 (.mv (.c (.d (.bool true))))] [4])
 .ret)
 .skip))
 (.seq (.reg [Qo 13 (.ldl (.t 2) (some 2)),
 Qo 14 (.ldl (.t 3) (some 2)),
 Qo 16 (.ldl (.t 2) (some 2)),
 Qo 17 (.ldl (.t 3) (some 2)),
 Qo 15 (.call 27 [(.t 13),(.t 14)]),
 Qo 18 (.call 14 [(.t 16),(.t 17)]),
 Qo 19 (.gA .eql (.t 15) (.t 18)),
 Qm 20 19,
 ⟨some 21,.ldl (.t 2) (some 2),some (20,true)⟩,
 ⟨some 22,.ldl (.t 3) (some 2),some (20,true)⟩,
 ⟨some 24,.ldl (.t 3) (some 2),some (20,true)⟩,
 ⟨some 25,.ldl (.t 2) (some 2),some (20,true)⟩,
 ⟨some 23,.call 27 [(.t 21),(.t 22)],some (20,true)⟩,
 ⟨some 26,.call 27 [(.t 24),(.t 25)],some (20,true)⟩,
 ⟨some 27,.gA .eql (.t 23) (.t 26),some (20,true)⟩,
 Qo 28 (.pick (.t 20) (.t 27) (.c (.d (.bool false)))),
 Qm 29 28,
 ⟨some 30,.ldl (.t 2) (some 2),some (29,true)⟩,
 ⟨some 31,.ldl (.t 2) (some 2),some (29,true)⟩,
 ⟨some 32,.call 27 [(.t 30),(.t 31)],some (29,true)⟩,
 Qo 33 (.pick (.t 29) (.t 32) (.c (.d (.bool false)))),
 Qm 34 33,
 ⟨some 35,.ldl (.t 3) (some 2),some (34,true)⟩,
 ⟨some 36,.ldl (.t 3) (some 2),some (34,true)⟩,
 ⟨some 37,.call 27 [(.t 35),(.t 36)],some (34,true)⟩,
 Qo 38 (.pick (.t 34) (.t 37) (.c (.d (.bool false)))),
 Qm 39 38,
 ⟨some 40,.call 15 [],some (39,true)⟩,
 Qo 41 (.pick (.t 39) (.t 40) (.c (.d (.bool false)))),
 Qm 4 41] [4])
 .ret)))
def Qd:List (List Nat×PT):=[([2,3],.done),([2,3,12],.done),([4],.done),([4],(.one 0 (.one 1 (.one 3 (.one 4 (.one 2 (.one 5 (.one 6 (.one 7 (.one 8 (.one 9 (.one 11 (.one 12 (.one 10 (.one 13 (.one 14 (.one 15 (.one 16 (.one 17 (.one 18 (.one 19 (.one 20 (.one 21 (.one 22 (.one 23 (.one 24 (.one 25 (.one 26 (.one 27 (.one 28 (.one 29 .done)))))))))))))))))))))))))))))))]
noncomputable def DO:Cx:=⟨Tryz.prog,11,Tryz.f11,42,[300005,300009,300013,300014,300016,300017,300021,300022,300024,300025,300030,300031,300035,300036],[],[.t 4]⟩
theorem Ed:Good DO:=⟨Tryz.func11,by kernel_rfl⟩
theorem PQ:DO.rs=[.t 4]:=rfl
theorem QB (hl:args.length≤42) (h:Run DO K [.code Pn] (Ao args) E σ):AQ Tryz.prog 11 args σ K:=
 AU (cx:=DO) (code:=Tryz.f11.body.getD .skip) Ed (by kernel_rfl) Tryz.ntmps11 hl (AY DO _ Qd _ [] (by kernel_rfl)) h
def ZJ:C:=(.seq (.seq (.reg [Qm 103 9,
 Qo 104 (.fld (.t 6) 2),
 Qo 105 (.ldl (.t 104) none),
 Qm 106 8,
 Qo 107 (.ix (.t 105) (.t 106) 2),
 Qo 108 (.fld (.t 107) 1),
 Qo 109 (.ld (.t 108) none),
 Qo 110 (.len (.t 109)),
 Qo 111 (.bin .lss (.t 103) (.t 110))] [2,3,5,6,7,8,9,111])
 (.cond (.t 111) .skip
 (.exit 4)))
 (.seq (.block 5 (.seq (.reg [Qo 114 (.fld (.t 6) 2),
 Qo 115 (.ldl (.t 114) none),
 Qm 116 8,
 Qo 117 (.ix (.t 115) (.t 116) 2),
 Qo 118 (.fld (.t 117) 1),
 Qo 119 (.ld (.t 118) none),
 Qm 120 9,
 Qo 121 (.ix (.t 119) (.t 120) 3),
 Qo 122 (.ld (.t 121) (some 3)),
 Qo 123 (.fld (.t 7) 2),
 Qo 124 (.ldl (.t 123) none),
 Qm 125 8,
 Qo 126 (.ix (.t 124) (.t 125) 2),
 Qo 127 (.fld (.t 126) 1),
 Qo 128 (.ld (.t 127) none),
 Qm 129 9,
 Qo 130 (.ix (.t 128) (.t 129) 3),
 Qo 131 (.ld (.t 130) (some 3)),
 Qo 132 (.call 37 [(.t 122),(.t 131)]),
 Qo 133 (.un .not (.t 132))] [2,3,5,6,7,8,9,133])
 (.cond (.t 133) (.seq (.reg [Qo 4 (.mv (.c (.d (.bool false))))] [4])
 .ret)
 .skip)))
 (.reg [Qm 112 9,
 Qo 113 (.bin .add (.t 112) (.c (.d (.int .i64 1)))),
 Qm 9 113] [2,3,5,6,7,8,9])))
def ZK:C:=(.seq (.seq (.reg [Qm 66 8,
 Qo 67 (.fld (.t 6) 2),
 Qo 68 (.ldl (.t 67) none),
 Qo 69 (.len (.t 68)),
 Qo 70 (.bin .lss (.t 66) (.t 69))] [2,3,5,6,7,8,70])
 (.cond (.t 70) .skip
 (.exit 2)))
 (.seq (.block 3 (.seq (.seq (.reg [Qo 73 (.fld (.t 6) 2),
 Qo 74 (.ldl (.t 73) none),
 Qm 75 8,
 Qo 76 (.ix (.t 74) (.t 75) 2),
 Qo 77 (.fld (.t 76) 0),
 Qo 78 (.ld (.t 77) none),
 Qo 79 (.fld (.t 7) 2),
 Qo 80 (.ldl (.t 79) none),
 Qm 81 8,
 Qo 82 (.ix (.t 80) (.t 81) 2),
 Qo 83 (.fld (.t 82) 0),
 Qo 84 (.ld (.t 83) none),
 Qo 85 (.bin .neq (.t 78) (.t 84)),
 Qm 86 85,
 ⟨some 87,.fld (.t 6) 2,some (86,false)⟩,
 ⟨some 88,.ldl (.t 87) none,some (86,false)⟩,
 ⟨some 89,.mv (.t 8),some (86,false)⟩,
 ⟨some 90,.ix (.t 88) (.t 89) 2,some (86,false)⟩,
 ⟨some 91,.fld (.t 90) 1,some (86,false)⟩,
 ⟨some 92,.ld (.t 91) none,some (86,false)⟩,
 ⟨some 93,.len (.t 92),some (86,false)⟩,
 ⟨some 94,.fld (.t 7) 2,some (86,false)⟩,
 ⟨some 95,.ldl (.t 94) none,some (86,false)⟩,
 ⟨some 96,.mv (.t 8),some (86,false)⟩,
 ⟨some 97,.ix (.t 95) (.t 96) 2,some (86,false)⟩,
 ⟨some 98,.fld (.t 97) 1,some (86,false)⟩,
 ⟨some 99,.ld (.t 98) none,some (86,false)⟩,
 ⟨some 100,.len (.t 99),some (86,false)⟩,
 ⟨some 101,.bin .neq (.t 93) (.t 100),some (86,false)⟩,
 Qo 102 (.pick (.t 86) (.c (.d (.bool true))) (.t 101))] [2,3,5,6,7,8,102])
 (.cond (.t 102) (.seq (.reg [Qo 4 (.mv (.c (.d (.bool false))))] [4])
 .ret)
 .skip))
 (.seq (.reg [Qo 9 (.mv (.c (.d (.int .i64 0))))] [2,3,5,6,7,8,9])
 (.block 4 (.loop ZJ)))))
 (.reg [Qm 71 8,
 Qo 72 (.bin .add (.t 71) (.c (.d (.int .i64 1)))),
 Qm 8 72] [2,3,5,6,7,8])))
def ZL:C:=(.seq (.seq (.reg [Qm 27 5,
 Qo 28 (.fld (.t 2) 0),
 Qo 29 (.ldl (.t 28) none),
 Qo 30 (.len (.t 29)),
 Qo 31 (.bin .lss (.t 27) (.t 30))] [2,3,5,31])
 (.cond (.t 31) .skip
 (.exit 0)))
 (.seq (.block 1 (.seq (.SZ (.one (Qo 6 (.al [(.d (.str [])),.AW,.AW] false))
 (.one (Qo 7 (.al [(.d (.str [])),.AW,.AW] false))
 (.one (Qo 34 (.fld (.t 2) 0))
 (.one (Qo 35 (.ldl (.t 34) none))
 (.one (Qm 36 5)
 (.one (Qo 37 (.ix (.t 35) (.t 36) 3))
 (.one (Qo 38 (.ld (.t 37) (some 3)))
 (.one (Qo 39 (.fld (.t 3) 0))
 (.one (Qm 41 5)
 (.alt (Qo 40 (.ldl (.t 39) none))
 (.one (Qo 42 (.ix (.t 40) (.t 41) 3))
 (.alt (Qo 43 (.ld (.t 42) (some 3)))
 (.one ⟨none,.st (.t 6) (.t 38) 3,none⟩
 (.one ⟨none,.st (.t 7) (.t 43) 3,none⟩
 .done))
 (.alt ⟨none,.st (.t 6) (.t 38) 3,none⟩
 (.one (Qo 43 (.ld (.t 42) (some 3)))
 (.one ⟨none,.st (.t 7) (.t 43) 3,none⟩
 .done))
 .done)))
 (.alt ⟨none,.st (.t 6) (.t 38) 3,none⟩
 (.one (Qo 40 (.ldl (.t 39) none))
 (.one (Qo 42 (.ix (.t 40) (.t 41) 3))
 (.one (Qo 43 (.ld (.t 42) (some 3)))
 (.one ⟨none,.st (.t 7) (.t 43) 3,none⟩
 .done))))
 .done))))))))))) [2,3,5,6,7])
 (.seq (.seq (.reg [Qo 44 (.fld (.t 6) 0),
 Qo 45 (.ldl (.t 44) none),
 Qo 46 (.fld (.t 7) 0),
 Qo 47 (.ldl (.t 46) none),
 Qo 48 (.bin .neq (.t 45) (.t 47)),
 Qm 49 48,
 ⟨some 50,.fld (.t 6) 1,some (49,false)⟩,
 ⟨some 51,.ldl (.t 50) none,some (49,false)⟩,
 ⟨some 52,.fld (.t 7) 1,some (49,false)⟩,
 ⟨some 53,.ldl (.t 52) none,some (49,false)⟩,
 ⟨some 54,.call 36 [(.t 51),(.t 53)],some (49,false)⟩,
 ⟨some 55,.un .not (.t 54),some (49,false)⟩,
 Qo 56 (.pick (.t 49) (.c (.d (.bool true))) (.t 55)),
 Qm 57 56,
 ⟨some 58,.fld (.t 6) 2,some (57,false)⟩,
 ⟨some 59,.ldl (.t 58) none,some (57,false)⟩,
 ⟨some 60,.len (.t 59),some (57,false)⟩,
 ⟨some 61,.fld (.t 7) 2,some (57,false)⟩,
 ⟨some 62,.ldl (.t 61) none,some (57,false)⟩,
 ⟨some 63,.len (.t 62),some (57,false)⟩,
 ⟨some 64,.bin .neq (.t 60) (.t 63),some (57,false)⟩,
 Qo 65 (.pick (.t 57) (.c (.d (.bool true))) (.t 64))] [2,3,5,6,7,65])
 (.cond (.t 65) (.seq (.reg [Qo 4 (.mv (.c (.d (.bool false))))] [4])
 .ret)
 .skip))
 (.seq (.reg [Qo 8 (.mv (.c (.d (.int .i64 0))))] [2,3,5,6,7,8])
 (.block 2 (.loop ZK))))))
 (.reg [Qm 32 5,
 Qo 33 (.bin .add (.t 32) (.c (.d (.int .i64 1)))),
 Qm 5 33] [2,3,5])))
def ZM:C:=(.seq (.seq (.reg [Qm 134 10,
 Qo 135 (.fld (.t 2) 1),
 Qo 136 (.ldl (.t 135) none),
 Qo 137 (.len (.t 136)),
 Qo 138 (.bin .lss (.t 134) (.t 137))] [2,3,10,138])
 (.cond (.t 138) .skip
 (.exit 6)))
 (.seq (.block 7 (.seq (.reg [Qo 141 (.fld (.t 2) 1),
 Qo 142 (.ldl (.t 141) none),
 Qm 143 10,
 Qo 144 (.ix (.t 142) (.t 143) 8),
 Qo 145 (.fld (.t 144) 0),
 Qo 146 (.ld (.t 145) none),
 Qo 147 (.fld (.t 3) 1),
 Qo 148 (.ldl (.t 147) none),
 Qm 149 10,
 Qo 150 (.ix (.t 148) (.t 149) 8),
 Qo 151 (.fld (.t 150) 0),
 Qo 152 (.ld (.t 151) none),
 Qo 153 (.bin .neq (.t 146) (.t 152)),
 Qm 154 153,
 ⟨some 155,.fld (.t 2) 1,some (154,false)⟩,
 ⟨some 156,.ldl (.t 155) none,some (154,false)⟩,
 ⟨some 157,.mv (.t 10),some (154,false)⟩,
 ⟨some 158,.ix (.t 156) (.t 157) 8,some (154,false)⟩,
 ⟨some 159,.fld (.t 158) 1,some (154,false)⟩,
 ⟨some 160,.ld (.t 159) none,some (154,false)⟩,
 ⟨some 161,.fld (.t 3) 1,some (154,false)⟩,
 ⟨some 162,.ldl (.t 161) none,some (154,false)⟩,
 ⟨some 163,.mv (.t 10),some (154,false)⟩,
 ⟨some 164,.ix (.t 162) (.t 163) 8,some (154,false)⟩,
 ⟨some 165,.fld (.t 164) 1,some (154,false)⟩,
 ⟨some 166,.ld (.t 165) none,some (154,false)⟩,
 ⟨some 167,.call 36 [(.t 160),(.t 166)],some (154,false)⟩,
 ⟨some 168,.un .not (.t 167),some (154,false)⟩,
 Qo 169 (.pick (.t 154) (.c (.d (.bool true))) (.t 168)),
 Qm 170 169,
 ⟨some 171,.fld (.t 2) 1,some (170,false)⟩,
 ⟨some 172,.ldl (.t 171) none,some (170,false)⟩,
 ⟨some 173,.mv (.t 10),some (170,false)⟩,
 ⟨some 174,.ix (.t 172) (.t 173) 8,some (170,false)⟩,
 ⟨some 175,.fld (.t 174) 2,some (170,false)⟩,
 ⟨some 176,.ld (.t 175) (some 6),some (170,false)⟩,
 ⟨some 177,.fld (.t 3) 1,some (170,false)⟩,
 ⟨some 178,.ldl (.t 177) none,some (170,false)⟩,
 ⟨some 179,.mv (.t 10),some (170,false)⟩,
 ⟨some 180,.ix (.t 178) (.t 179) 8,some (170,false)⟩,
 ⟨some 181,.fld (.t 180) 2,some (170,false)⟩,
 ⟨some 182,.ld (.t 181) (some 6),some (170,false)⟩,
 ⟨some 183,.call 38 [(.t 176),(.t 182)],some (170,false)⟩,
 ⟨some 184,.un .not (.t 183),some (170,false)⟩,
 Qo 185 (.pick (.t 170) (.c (.d (.bool true))) (.t 184))] [2,3,10,185])
 (.cond (.t 185) (.seq (.reg [Qo 4 (.mv (.c (.d (.bool false))))] [4])
 .ret)
 .skip)))
 (.reg [Qm 139 10,
 Qo 140 (.bin .add (.t 139) (.c (.d (.int .i64 1)))),
 Qm 10 140] [2,3,10])))
def gE:C:=(.seq (.reg [Qo 2 (.box (.t 0) false),
 Qo 3 (.box (.t 1) false),
 Qo 4 (.mv (.c (.d (.bool false))))] [2,3])
 (.seq (.seq (.reg [Qo 11 (.fld (.t 2) 0),
 Qo 12 (.ldl (.t 11) none),
 Qo 13 (.len (.t 12)),
 Qo 14 (.fld (.t 3) 0),
 Qo 15 (.ldl (.t 14) none),
 Qo 16 (.len (.t 15)),
 Qo 17 (.bin .neq (.t 13) (.t 16)),
 Qm 18 17,
 ⟨some 19,.fld (.t 2) 1,some (18,false)⟩,
 ⟨some 20,.ldl (.t 19) none,some (18,false)⟩,
 ⟨some 21,.len (.t 20),some (18,false)⟩,
 ⟨some 22,.fld (.t 3) 1,some (18,false)⟩,
 ⟨some 23,.ldl (.t 22) none,some (18,false)⟩,
 ⟨some 24,.len (.t 23),some (18,false)⟩,
 ⟨some 25,.bin .neq (.t 21) (.t 24),some (18,false)⟩,
 Qo 26 (.pick (.t 18) (.c (.d (.bool true))) (.t 25))] [2,3,26])
 (.cond (.t 26) (.seq (.reg [Qo 4 (.mv (.c (.d (.bool false))))] [4])
 .ret)
 .skip))
 (.seq (.seq (.reg [Qo 5 (.mv (.c (.d (.int .i64 0))))] [2,3,5])
 (.block 0 (.loop ZL)))
 (.seq (.seq (.reg [Qo 10 (.mv (.c (.d (.int .i64 0))))] [2,3,10])
 (.block 6 (.loop ZM)))
 (.seq (.reg [Qo 4 (.mv (.c (.d (.bool true))))] [4])
 .ret)))))
def jC:List (List Nat×PT):=[([2,3],.done),([2,3,26],.done),([4],.done),([2,3,5],.done),([2,3,5,31],.done),([2,3,5,6,7],(.lay 10 (.lay 11 (.one 0 (.one 1 (.one 2 (.one 3 (.one 4 (.one 5 (.one 7 (.alt 6 (.one 8 (.alt 9 (.one 12 (.one 13 .done)) (.alt 12 (.one 9 (.one 13 .done)) .done))) (.alt 12 (.one 6 (.one 8 (.one 9 (.one 13 .done)))) .done)))))))))))),([2,3,5,6,7,65],.done),([4],.done),([2,3,5,6,7,8],.done),([2,3,5,6,7,8,70],.done),([2,3,5,6,7,8,102],.done),([4],.done),([2,3,5,6,7,8,9],.done),([2,3,5,6,7,8,9,111],.done),([2,3,5,6,7,8,9,133],.done),([4],.done),([2,3,5,6,7,8,9],.done),([2,3,5,6,7,8],.done),([2,3,5],.done),([2,3,10],.done),([2,3,10,138],.done),([2,3,10,185],.done),([4],.done),([2,3,10],.done),([4],.done)]
noncomputable def Nb:Cx:=⟨Tryz.prog,14,Tryz.f14,186,[300012,300015,300020,300023,300029,300035,300040,300045,300047,300051,300053,300059,300062,300068,300074,300080,300088,300095,300105,300115,300124,300136,300142,300148,300156,300162,300172,300178],[],[.t 4]⟩
theorem Dj:Good Nb:=⟨Tryz.func14,by kernel_rfl⟩
theorem eX:Nb.rs=[.t 4]:=rfl
theorem gW (hl:args.length≤186) (h:Run Nb K [.code gE] (Ao args) E σ):AQ Tryz.prog 14 args σ K:=
 AU (cx:=Nb) (code:=Tryz.f14.body.getD .skip) Dj (by kernel_rfl) Tryz.ntmps14 hl (AY Nb _ jC _ [] (by kernel_rfl)) h
def T7:C:=(.seq (.reg [Qo 0 (.mv (.c (.d (.bool false))))] [])
 (.seq (.reg [Qo 5 (.call 12 [(.c (.d (.str [102,117,110,32,102,40,120,41,61,105,102,32,120,60,61,48,32,116,104,101,110,40,41,32,101,108,115,101,32,102,40,120,45,49,41,59])))]),
 Qm 4 5,
 Qo 6 (.ext (.t 4) 0),
 Qo 7 (.ext (.t 4) 1),
 Qo 8 (.ext (.t 4) 2),
 Qo 1 (.al [.AW,.AW] false),
 ⟨none,.st (.t 1) (.t 6) 2,none⟩,
 Qm 2 7,
 Qm 3 8] [1,3])
 (.seq (.reg [Qm 9 3,
 Qo 10 (.bin .eql (.t 9) (.c (.d (.int .i64 0)))),
 Qm 11 10,
 ⟨some 12,.fld (.t 1) 1,some (11,true)⟩,
 ⟨some 13,.ldl (.t 12) none,some (11,true)⟩,
 ⟨some 14,.len (.t 13),some (11,true)⟩,
 ⟨some 15,.bin .eql (.t 14) (.c (.d (.int .i64 1))),some (11,true)⟩,
 Qo 16 (.pick (.t 11) (.t 15) (.c (.d (.bool false)))),
 Qm 17 16,
 ⟨some 18,.ldl (.t 1) (some 2),some (17,true)⟩,
 ⟨some 19,.call 17 [(.t 18)],some (17,true)⟩,
 ⟨some 20,.bin .eql (.t 19) (.c (.d (.str [102,117,110,32,102,40,120,41,32,61,32,105,102,32,120,32,60,61,32,48,32,116,104,101,110,32,40,41,32,101,108,115,101,32,102,40,120,32,45,32,49,41,59,10]))),some (17,true)⟩,
 Qo 21 (.pick (.t 17) (.t 20) (.c (.d (.bool false)))),
 Qm 0 21] [0])
 .ret)))
noncomputable def II:Cx:=⟨Tryz.prog,15,Tryz.f15,22,[300013,300018],[],[.t 0]⟩
theorem Ti:Good II:=⟨Tryz.func15,by kernel_rfl⟩
theorem Y2:II.rs=[.t 0]:=rfl
theorem ZQ (hl:args.length≤22) (h:Run II K [.code T7] (Ao args) E σ):AQ Tryz.prog 15 args σ K:=
 AU (cx:=II) (code:=Tryz.f15.body.getD .skip) Ti (by kernel_rfl) Tryz.ntmps15 hl (AY II _ (As T7) _ [] (by kernel_rfl)) h
def Xh:C:=(.seq (.reg [Qo 66 (.bin .lss (.t 65) (.t 64))] [1,3,23,24,25,46,47,48,63,64,65,66])
 (.seq (.cond (.t 66) .skip
 (.exit 4))
 (.seq (.block 5 (.seq (.reg [Qo 67 (.ix (.t 63) (.t 65) 3),
 Qo 68 (.ld (.t 67) (some 3)),
 Qo 9 (.al [(.d (.int .i64 0)),(.d (.str [])),.AW] false),
 ⟨none,.st (.t 9) (.t 68) 3,none⟩] [1,3,9,23,24,25,46,47,48,63,64,65])
 (.seq (.reg [Qo 69 (.ldl (.t 9) (some 3)),
 Qo 70 (.call 40 [(.t 69),(.t 3)]),
 Qo 71 (.un .not (.t 70))] [1,3,23,24,25,46,47,48,63,64,65,71])
 (.cond (.t 71) (.seq (.reg [Qo 2 (.mv (.c (.d (.bool false))))] [2])
 .ret)
 .skip))))
 (.reg [Qo 72 (.bin .add (.t 65) (.c (.d (.int .i64 1)))),
 Qm 65 72] [1,3,23,24,25,46,47,48,63,64,65]))))
def Xi:C:=(.seq (.reg [Qo 49 (.bin .lss (.t 48) (.t 47))] [1,3,23,24,25,46,47,48,49])
 (.seq (.cond (.t 49) .skip
 (.exit 2))
 (.seq (.block 3 (.seq (.reg [Qo 50 (.ix (.t 46) (.t 48) 2),
 Qo 51 (.ld (.t 50) (some 2)),
 Qo 7 (.al [(.d (.str [])),.AW] false),
 ⟨none,.st (.t 7) (.t 51) 2,none⟩] [1,3,7,23,24,25,46,47,48])
 (.seq (.seq (.reg [Qo 52 (.fld (.t 7) 0),
 Qo 53 (.ldl (.t 52) none),
 Qo 54 (.Mm (.t 53)),
 Qo 55 (.bin .gtr (.t 54) (.c (.d (.int .i64 40)))),
 Qm 56 55,
 ⟨some 57,.fld (.t 7) 1,some (56,false)⟩,
 ⟨some 58,.ldl (.t 57) none,some (56,false)⟩,
 ⟨some 59,.len (.t 58),some (56,false)⟩,
 ⟨some 60,.bin .gtr (.t 59) (.c (.d (.int .i64 10))),some (56,false)⟩,
 Qo 61 (.pick (.t 56) (.c (.d (.bool true))) (.t 60))] [1,3,7,23,24,25,46,47,48,61])
 (.cond (.t 61) (.seq (.reg [Qo 2 (.mv (.c (.d (.bool false))))] [2])
 .ret)
 .skip))
 (.seq (.reg [Qo 62 (.fld (.t 7) 1),
 Qo 63 (.ldl (.t 62) none),
 Qo 64 (.len (.t 63)),
 Qo 65 (.mv (.c (.d (.int .i64 0))))] [1,3,23,24,25,46,47,48,63,64,65])
 (.block 4 (.loop Xh))))))
 (.reg [Qo 73 (.bin .add (.t 48) (.c (.d (.int .i64 1)))),
 Qm 48 73] [1,3,23,24,25,46,47,48]))))
def Xj:C:=(.seq (.reg [Qo 26 (.bin .lss (.t 25) (.t 24))] [1,3,23,24,25,26])
 (.seq (.cond (.t 26) .skip
 (.exit 0))
 (.seq (.block 1 (.seq (.reg [Qo 27 (.ix (.t 23) (.t 25) 3),
 Qo 28 (.ld (.t 27) (some 3)),
 Qo 5 (.al [(.d (.str [])),.AW,.AW] false),
 ⟨none,.st (.t 5) (.t 28) 3,none⟩] [1,3,5,23,24,25])
 (.seq (.seq (.reg [Qo 29 (.fld (.t 5) 0),
 Qo 30 (.ldl (.t 29) none),
 Qo 31 (.Mm (.t 30)),
 Qo 32 (.bin .gtr (.t 31) (.c (.d (.int .i64 40)))),
 Qm 33 32,
 ⟨some 34,.fld (.t 5) 1,some (33,false)⟩,
 ⟨some 35,.ldl (.t 34) none,some (33,false)⟩,
 ⟨some 36,.call 39 [(.t 35),(.c (.d (.int .i64 10)))],some (33,false)⟩,
 ⟨some 37,.un .not (.t 36),some (33,false)⟩,
 Qo 38 (.pick (.t 33) (.c (.d (.bool true))) (.t 37)),
 Qm 39 38,
 ⟨some 40,.fld (.t 5) 2,some (39,false)⟩,
 ⟨some 41,.ldl (.t 40) none,some (39,false)⟩,
 ⟨some 42,.len (.t 41),some (39,false)⟩,
 ⟨some 43,.bin .gtr (.t 42) (.c (.d (.int .i64 10))),some (39,false)⟩,
 Qo 44 (.pick (.t 39) (.c (.d (.bool true))) (.t 43))] [1,3,5,23,24,25,44])
 (.cond (.t 44) (.seq (.reg [Qo 2 (.mv (.c (.d (.bool false))))] [2])
 .ret)
 .skip))
 (.seq (.reg [Qo 45 (.fld (.t 5) 2),
 Qo 46 (.ldl (.t 45) none),
 Qo 47 (.len (.t 46)),
 Qo 48 (.mv (.c (.d (.int .i64 0))))] [1,3,23,24,25,46,47,48])
 (.block 2 (.loop Xi))))))
 (.reg [Qo 74 (.bin .add (.t 25) (.c (.d (.int .i64 1)))),
 Qm 25 74] [1,3,23,24,25]))))
def Xk:C:=(.seq (.reg [Qo 79 (.bin .lss (.t 78) (.t 77))] [3,76,77,78,79])
 (.seq (.cond (.t 79) .skip
 (.exit 6))
 (.seq (.block 7 (.seq (.reg [Qo 80 (.ix (.t 76) (.t 78) 8),
 Qo 81 (.ld (.t 80) (some 8)),
 Qo 11 (.al [(.d (.str [])),.AW,(.d (.int .i64 0)),(.d (.str [])),(.d (.int .i64 0)),.AW,.AW,.AW] false),
 ⟨none,.st (.t 11) (.t 81) 8,none⟩] [3,11,76,77,78])
 (.seq (.reg [Qo 82 (.fld (.t 11) 0),
 Qo 83 (.ldl (.t 82) none),
 Qo 84 (.Mm (.t 83)),
 Qo 85 (.bin .gtr (.t 84) (.c (.d (.int .i64 40)))),
 Qm 86 85,
 ⟨some 87,.fld (.t 11) 1,some (86,false)⟩,
 ⟨some 88,.ldl (.t 87) none,some (86,false)⟩,
 ⟨some 89,.call 39 [(.t 88),(.c (.d (.int .i64 10)))],some (86,false)⟩,
 ⟨some 90,.un .not (.t 89),some (86,false)⟩,
 Qo 91 (.pick (.t 86) (.c (.d (.bool true))) (.t 90)),
 Qm 92 91,
 ⟨some 93,.fld (.t 11) 2,some (92,false)⟩,
 ⟨some 94,.ldl (.t 93) (some 6),some (92,false)⟩,
 ⟨some 95,.call 41 [(.t 94),(.t 3)],some (92,false)⟩,
 ⟨some 96,.un .not (.t 95),some (92,false)⟩,
 Qo 97 (.pick (.t 92) (.c (.d (.bool true))) (.t 96))] [3,76,77,78,97])
 (.cond (.t 97) (.seq (.reg [Qo 2 (.mv (.c (.d (.bool false))))] [2])
 .ret)
 .skip))))
 (.reg [Qo 98 (.bin .add (.t 78) (.c (.d (.int .i64 1)))),
 Qm 78 98] [3,76,77,78]))))
def W1:C:=(.seq (.reg [Qo 1 (.box (.t 0) false),
 Qo 2 (.mv (.c (.d (.bool false))))] [1])
 (.seq (.seq (.reg [Qo 12 (.fld (.t 1) 0),
 Qo 13 (.ldl (.t 12) none),
 Qo 14 (.len (.t 13)),
 Qo 15 (.bin .gtr (.t 14) (.c (.d (.int .i64 14)))),
 Qm 16 15,
 ⟨some 17,.fld (.t 1) 1,some (16,false)⟩,
 ⟨some 18,.ldl (.t 17) none,some (16,false)⟩,
 ⟨some 19,.len (.t 18),some (16,false)⟩,
 ⟨some 20,.bin .gtr (.t 19) (.c (.d (.int .i64 26))),some (16,false)⟩,
 Qo 21 (.pick (.t 16) (.c (.d (.bool true))) (.t 20))] [1,21])
 (.cond (.t 21) (.seq (.reg [Qo 2 (.mv (.c (.d (.bool false))))] [2])
 .ret)
 .skip))
 (.seq (.reg [Qo 3 (.ex (.alt 3 [(.d (.int .i64 0))]) []),
 ⟨none,.st (.t 3) (.c (.d (.int .i64 200))) 1,none⟩] [1,3])
 (.seq (.seq (.reg [Qo 22 (.fld (.t 1) 0),
 Qo 23 (.ldl (.t 22) none),
 Qo 24 (.len (.t 23)),
 Qo 25 (.mv (.c (.d (.int .i64 0))))] [1,3,23,24,25])
 (.block 0 (.loop Xj)))
 (.seq (.seq (.reg [Qo 75 (.fld (.t 1) 1),
 Qo 76 (.ldl (.t 75) none),
 Qo 77 (.len (.t 76)),
 Qo 78 (.mv (.c (.d (.int .i64 0))))] [3,76,77,78])
 (.block 6 (.loop Xk)))
 (.seq (.reg [Qo 2 (.mv (.c (.d (.bool true))))] [2])
 .ret))))))
noncomputable def Lc:Cx:=⟨Tryz.prog,16,Tryz.f16,99,[3,300013,300018,300023,300030,300035,300041,300046,300053,300058,300063,300069,300076,300083,300088,300094],[],[.t 2]⟩
theorem Cy:Good Lc:=⟨Tryz.func16,by kernel_rfl⟩
theorem cE:Lc.rs=[.t 2]:=rfl
theorem dR (hl:args.length≤99) (h:Run Lc K [.code W1] (Ao args) E σ):AQ Tryz.prog 16 args σ K:=
 AU (cx:=Lc) (code:=Tryz.f16.body.getD .skip) Cy (by kernel_rfl) Tryz.ntmps16 hl (AY Lc _ (As W1) _ [] (by kernel_rfl)) h
def Rl:C:=(.seq (.reg [Qo 2 (.box (.t 0) false),
 Qo 3 (.box (.t 1) false),
 Qo 4 (.mv (.c (.d (.bool false))))] [2,3])
 (.seq (.reg [Qo 5 (.fld (.t 2) 0),
 Qo 6 (.ldl (.t 5) none),
 Qo 7 (.fld (.t 3) 0),
 Qo 8 (.ldl (.t 7) none),
 Qo 9 (.call 60 [(.t 6),(.t 8),(.c (.fn 61 [] []))]),
 Qm 10 9,
 ⟨some 11,.fld (.t 2) 1,some (10,true)⟩,
 ⟨some 12,.ldl (.t 11) none,some (10,true)⟩,
 ⟨some 13,.fld (.t 3) 1,some (10,true)⟩,
 ⟨some 14,.ldl (.t 13) none,some (10,true)⟩,
 ⟨some 15,.call 62 [(.t 12),(.t 14),(.c (.fn 63 [] []))],some (10,true)⟩,
 Qo 16 (.pick (.t 10) (.t 15) (.c (.d (.bool false)))),
 Qm 4 16] [4])
 .ret))
noncomputable def HY:Cx:=⟨Tryz.prog,27,Tryz.f27,17,[300006,300008,300012,300014],[],[.t 4]⟩
theorem NK:Good HY:=⟨Tryz.func27,by kernel_rfl⟩
theorem XA:HY.rs=[.t 4]:=rfl
theorem Xz (hl:args.length≤17) (h:Run HY K [.code Rl] (Ao args) E σ):AQ Tryz.prog 27 args σ K:=
 AU (cx:=HY) (code:=Tryz.f27.body.getD .skip) NK (by kernel_rfl) Tryz.ntmps27 hl (AY HY _ (As Rl) _ [] (by kernel_rfl)) h
def Un:C:=(.seq (.seq (.reg [Qm 11 5,
 Qm 12 0,
 Qo 13 (.len (.t 12)),
 Qo 14 (.bin .lss (.t 11) (.t 13))] [0,1,5,14])
 (.cond (.t 14) .skip
 (.exit 0)))
 (.seq (.block 1 (.seq (.reg [Qm 17 0,
 Qm 18 5,
 Qo 19 (.ix (.t 17) (.t 18) 1),
 Qo 20 (.ld (.t 19) none),
 Qm 21 1,
 Qm 22 5,
 Qo 23 (.ix (.t 21) (.t 22) 1),
 Qo 24 (.ld (.t 23) none),
 Qo 25 (.bin .neq (.t 20) (.t 24))] [0,1,5,25])
 (.cond (.t 25) (.seq (.reg [Qo 4 (.mv (.c (.d (.bool false))))] [4])
 .ret)
 .skip)))
 (.reg [Qm 15 5,
 Qo 16 (.bin .add (.t 15) (.c (.d (.int .i64 1)))),
 Qm 5 16] [0,1,5])))
def Rk:C:=(.seq (.reg [Qo 4 (.mv (.c (.d (.bool false))))] [0,1])
 (.seq (.seq (.reg [Qm 6 0,
 Qo 7 (.len (.t 6)),
 Qm 8 1,
 Qo 9 (.len (.t 8)),
 Qo 10 (.bin .neq (.t 7) (.t 9))] [0,1,10])
 (.cond (.t 10) (.seq (.reg [Qo 4 (.mv (.c (.d (.bool false))))] [4])
 .ret)
 .skip))
 (.seq (.seq (.reg [Qo 5 (.mv (.c (.d (.int .i64 0))))] [0,1,5])
 (.block 0 (.loop Un)))
 (.seq (.reg [Qo 4 (.mv (.c (.d (.bool true))))] [4])
 .ret))))
noncomputable def HX:Cx:=⟨Tryz.prog,36,Tryz.f36,26,[],[],[.t 4]⟩
theorem JT:Good HX:=⟨Tryz.func36,by kernel_rfl⟩
theorem Wz:HX.rs=[.t 4]:=rfl
theorem Xy (hl:args.length≤26) (h:Run HX K [.code Rk] (Ao args) E σ):AQ Tryz.prog 36 args σ K:=
 AU (cx:=HX) (code:=Tryz.f36.body.getD .skip) JT (by kernel_rfl) Tryz.ntmps36 hl (AY HX _ (As Rk) _ [] (by kernel_rfl)) h
def Vf:C:=(.seq (.seq (.reg [Qm 27 5,
 Qo 28 (.fld (.t 2) 2),
 Qo 29 (.ldl (.t 28) none),
 Qo 30 (.len (.t 29)),
 Qo 31 (.bin .lss (.t 27) (.t 30))] [2,3,5,31])
 (.cond (.t 31) .skip
 (.exit 0)))
 (.seq (.block 1 (.seq (.reg [Qo 34 (.fld (.t 2) 2),
 Qo 35 (.ldl (.t 34) none),
 Qm 36 5,
 Qo 37 (.ix (.t 35) (.t 36) 3),
 Qo 38 (.ld (.t 37) (some 3)),
 Qo 39 (.fld (.t 3) 2),
 Qo 40 (.ldl (.t 39) none),
 Qm 41 5,
 Qo 42 (.ix (.t 40) (.t 41) 3),
 Qo 43 (.ld (.t 42) (some 3)),
 Qo 44 (.call 37 [(.t 38),(.t 43)]),
 Qo 45 (.un .not (.t 44))] [2,3,5,45])
 (.cond (.t 45) (.seq (.reg [Qo 4 (.mv (.c (.d (.bool false))))] [4])
 .ret)
 .skip)))
 (.reg [Qm 32 5,
 Qo 33 (.bin .add (.t 32) (.c (.d (.int .i64 1)))),
 Qm 5 33] [2,3,5])))
def T9:C:=(.seq (.reg [Qo 2 (.box (.t 0) false),
 Qo 3 (.box (.t 1) false),
 Qo 4 (.mv (.c (.d (.bool false))))] [2,3])
 (.seq (.seq (.reg [Qo 6 (.fld (.t 2) 0),
 Qo 7 (.ldl (.t 6) none),
 Qo 8 (.fld (.t 3) 0),
 Qo 9 (.ldl (.t 8) none),
 Qo 10 (.bin .neq (.t 7) (.t 9)),
 Qm 11 10,
 ⟨some 12,.fld (.t 2) 1,some (11,false)⟩,
 ⟨some 13,.ldl (.t 12) none,some (11,false)⟩,
 ⟨some 14,.fld (.t 3) 1,some (11,false)⟩,
 ⟨some 15,.ldl (.t 14) none,some (11,false)⟩,
 ⟨some 16,.bin .neq (.t 13) (.t 15),some (11,false)⟩,
 Qo 17 (.pick (.t 11) (.c (.d (.bool true))) (.t 16)),
 Qm 18 17,
 ⟨some 19,.fld (.t 2) 2,some (18,false)⟩,
 ⟨some 20,.ldl (.t 19) none,some (18,false)⟩,
 ⟨some 21,.len (.t 20),some (18,false)⟩,
 ⟨some 22,.fld (.t 3) 2,some (18,false)⟩,
 ⟨some 23,.ldl (.t 22) none,some (18,false)⟩,
 ⟨some 24,.len (.t 23),some (18,false)⟩,
 ⟨some 25,.bin .neq (.t 21) (.t 24),some (18,false)⟩,
 Qo 26 (.pick (.t 18) (.c (.d (.bool true))) (.t 25))] [2,3,26])
 (.cond (.t 26) (.seq (.reg [Qo 4 (.mv (.c (.d (.bool false))))] [4])
 .ret)
 .skip))
 (.seq (.seq (.reg [Qo 5 (.mv (.c (.d (.int .i64 0))))] [2,3,5])
 (.block 0 (.loop Vf)))
 (.seq (.reg [Qo 4 (.mv (.c (.d (.bool true))))] [4])
 .ret))))
noncomputable def IK:Cx:=⟨Tryz.prog,37,Tryz.f37,46,[300007,300009,300013,300015,300020,300023,300029,300035,300040],[],[.t 4]⟩
theorem G8:Good IK:=⟨Tryz.func37,by kernel_rfl⟩
theorem Y4:IK.rs=[.t 4]:=rfl
theorem ZS (hl:args.length≤46) (h:Run IK K [.code T9] (Ao args) E σ):AQ Tryz.prog 37 args σ K:=
 AU (cx:=IK) (code:=Tryz.f37.body.getD .skip) G8 (by kernel_rfl) Tryz.ntmps37 hl (AY IK _ (As T9) _ [] (by kernel_rfl)) h
def Vd:C:=(.seq (.seq (.reg [Qm 52 5,
 Qo 53 (.fld (.t 2) 4),
 Qo 54 (.ldl (.t 53) none),
 Qo 55 (.len (.t 54)),
 Qo 56 (.bin .lss (.t 52) (.t 55))] [2,3,5,56])
 (.cond (.t 56) .skip
 (.exit 0)))
 (.seq (.block 1 (.seq (.reg [Qo 59 (.fld (.t 2) 4),
 Qo 60 (.ldl (.t 59) none),
 Qm 61 5,
 Qo 62 (.ix (.t 60) (.t 61) 6),
 Qo 63 (.ld (.t 62) (some 6)),
 Qo 64 (.fld (.t 3) 4),
 Qo 65 (.ldl (.t 64) none),
 Qm 66 5,
 Qo 67 (.ix (.t 65) (.t 66) 6),
 Qo 68 (.ld (.t 67) (some 6)),
 Qo 69 (.call 38 [(.t 63),(.t 68)]),
 Qo 70 (.un .not (.t 69))] [2,3,5,70])
 (.cond (.t 70) (.seq (.reg [Qo 4 (.mv (.c (.d (.bool false))))] [4])
 .ret)
 .skip)))
 (.reg [Qm 57 5,
 Qo 58 (.bin .add (.t 57) (.c (.d (.int .i64 1)))),
 Qm 5 58] [2,3,5])))
def Ve:C:=(.seq (.seq (.reg [Qm 71 6,
 Qo 72 (.fld (.t 2) 5),
 Qo 73 (.ldl (.t 72) none),
 Qo 74 (.len (.t 73)),
 Qo 75 (.bin .lss (.t 71) (.t 74))] [2,3,6,75])
 (.cond (.t 75) .skip
 (.exit 2)))
 (.seq (.block 3 (.seq (.reg [Qo 78 (.fld (.t 2) 5),
 Qo 79 (.ldl (.t 78) none),
 Qm 80 6,
 Qo 81 (.ix (.t 79) (.t 80) 8),
 Qo 82 (.fld (.t 81) 0),
 Qo 83 (.ld (.t 82) none),
 Qo 84 (.fld (.t 3) 5),
 Qo 85 (.ldl (.t 84) none),
 Qm 86 6,
 Qo 87 (.ix (.t 85) (.t 86) 8),
 Qo 88 (.fld (.t 87) 0),
 Qo 89 (.ld (.t 88) none),
 Qo 90 (.bin .neq (.t 83) (.t 89)),
 Qm 91 90,
 ⟨some 92,.fld (.t 2) 5,some (91,false)⟩,
 ⟨some 93,.ldl (.t 92) none,some (91,false)⟩,
 ⟨some 94,.mv (.t 6),some (91,false)⟩,
 ⟨some 95,.ix (.t 93) (.t 94) 8,some (91,false)⟩,
 ⟨some 96,.fld (.t 95) 1,some (91,false)⟩,
 ⟨some 97,.ld (.t 96) none,some (91,false)⟩,
 ⟨some 98,.fld (.t 3) 5,some (91,false)⟩,
 ⟨some 99,.ldl (.t 98) none,some (91,false)⟩,
 ⟨some 100,.mv (.t 6),some (91,false)⟩,
 ⟨some 101,.ix (.t 99) (.t 100) 8,some (91,false)⟩,
 ⟨some 102,.fld (.t 101) 1,some (91,false)⟩,
 ⟨some 103,.ld (.t 102) none,some (91,false)⟩,
 ⟨some 104,.call 36 [(.t 97),(.t 103)],some (91,false)⟩,
 ⟨some 105,.un .not (.t 104),some (91,false)⟩,
 Qo 106 (.pick (.t 91) (.c (.d (.bool true))) (.t 105)),
 Qm 107 106,
 ⟨some 108,.fld (.t 2) 5,some (107,false)⟩,
 ⟨some 109,.ldl (.t 108) none,some (107,false)⟩,
 ⟨some 110,.mv (.t 6),some (107,false)⟩,
 ⟨some 111,.ix (.t 109) (.t 110) 8,some (107,false)⟩,
 ⟨some 112,.fld (.t 111) 2,some (107,false)⟩,
 ⟨some 113,.ld (.t 112) (some 6),some (107,false)⟩,
 ⟨some 114,.fld (.t 3) 5,some (107,false)⟩,
 ⟨some 115,.ldl (.t 114) none,some (107,false)⟩,
 ⟨some 116,.mv (.t 6),some (107,false)⟩,
 ⟨some 117,.ix (.t 115) (.t 116) 8,some (107,false)⟩,
 ⟨some 118,.fld (.t 117) 2,some (107,false)⟩,
 ⟨some 119,.ld (.t 118) (some 6),some (107,false)⟩,
 ⟨some 120,.call 38 [(.t 113),(.t 119)],some (107,false)⟩,
 ⟨some 121,.un .not (.t 120),some (107,false)⟩,
 Qo 122 (.pick (.t 107) (.c (.d (.bool true))) (.t 121))] [2,3,6,122])
 (.cond (.t 122) (.seq (.reg [Qo 4 (.mv (.c (.d (.bool false))))] [4])
 .ret)
 .skip)))
 (.reg [Qm 76 6,
 Qo 77 (.bin .add (.t 76) (.c (.d (.int .i64 1)))),
 Qm 6 77] [2,3,6])))
def T8:C:=(.seq (.reg [Qo 2 (.box (.t 0) false),
 Qo 3 (.box (.t 1) false),
 Qo 4 (.mv (.c (.d (.bool false))))] [2,3])
 (.seq (.seq (.reg [Qo 7 (.fld (.t 2) 0),
 Qo 8 (.ldl (.t 7) none),
 Qo 9 (.fld (.t 3) 0),
 Qo 10 (.ldl (.t 9) none),
 Qo 11 (.bin .neq (.t 8) (.t 10)),
 Qm 12 11,
 ⟨some 13,.fld (.t 2) 1,some (12,false)⟩,
 ⟨some 14,.ldl (.t 13) none,some (12,false)⟩,
 ⟨some 15,.fld (.t 3) 1,some (12,false)⟩,
 ⟨some 16,.ldl (.t 15) none,some (12,false)⟩,
 ⟨some 17,.bin .neq (.t 14) (.t 16),some (12,false)⟩,
 Qo 18 (.pick (.t 12) (.c (.d (.bool true))) (.t 17)),
 Qm 19 18,
 ⟨some 20,.fld (.t 2) 2,some (19,false)⟩,
 ⟨some 21,.ldl (.t 20) none,some (19,false)⟩,
 ⟨some 22,.fld (.t 3) 2,some (19,false)⟩,
 ⟨some 23,.ldl (.t 22) none,some (19,false)⟩,
 ⟨some 24,.bin .neq (.t 21) (.t 23),some (19,false)⟩,
 Qo 25 (.pick (.t 19) (.c (.d (.bool true))) (.t 24)),
 Qm 26 25,
 ⟨some 27,.fld (.t 2) 3,some (26,false)⟩,
 ⟨some 28,.ldl (.t 27) none,some (26,false)⟩,
 ⟨some 29,.fld (.t 3) 3,some (26,false)⟩,
 ⟨some 30,.ldl (.t 29) none,some (26,false)⟩,
 ⟨some 31,.call 36 [(.t 28),(.t 30)],some (26,false)⟩,
 ⟨some 32,.un .not (.t 31),some (26,false)⟩,
 Qo 33 (.pick (.t 26) (.c (.d (.bool true))) (.t 32)),
 Qm 34 33,
 ⟨some 35,.fld (.t 2) 4,some (34,false)⟩,
 ⟨some 36,.ldl (.t 35) none,some (34,false)⟩,
 ⟨some 37,.len (.t 36),some (34,false)⟩,
 ⟨some 38,.fld (.t 3) 4,some (34,false)⟩,
 ⟨some 39,.ldl (.t 38) none,some (34,false)⟩,
 ⟨some 40,.len (.t 39),some (34,false)⟩,
 ⟨some 41,.bin .neq (.t 37) (.t 40),some (34,false)⟩,
 Qo 42 (.pick (.t 34) (.c (.d (.bool true))) (.t 41)),
 Qm 43 42,
 ⟨some 44,.fld (.t 2) 5,some (43,false)⟩,
 ⟨some 45,.ldl (.t 44) none,some (43,false)⟩,
 ⟨some 46,.len (.t 45),some (43,false)⟩,
 ⟨some 47,.fld (.t 3) 5,some (43,false)⟩,
 ⟨some 48,.ldl (.t 47) none,some (43,false)⟩,
 ⟨some 49,.len (.t 48),some (43,false)⟩,
 ⟨some 50,.bin .neq (.t 46) (.t 49),some (43,false)⟩,
 Qo 51 (.pick (.t 43) (.c (.d (.bool true))) (.t 50))] [2,3,51])
 (.cond (.t 51) (.seq (.reg [Qo 4 (.mv (.c (.d (.bool false))))] [4])
 .ret)
 .skip))
 (.seq (.seq (.reg [Qo 5 (.mv (.c (.d (.int .i64 0))))] [2,3,5])
 (.block 0 (.loop Vd)))
 (.seq (.seq (.reg [Qo 6 (.mv (.c (.d (.int .i64 0))))] [2,3,6])
 (.block 2 (.loop Ve)))
 (.seq (.reg [Qo 4 (.mv (.c (.d (.bool true))))] [4])
 .ret)))))
noncomputable def IJ:Cx:=⟨Tryz.prog,38,Tryz.f38,123,[300008,300010,300014,300016,300021,300023,300028,300030,300036,300039,300045,300048,300054,300060,300065,300073,300079,300085,300093,300099,300109,300115],[],[.t 4]⟩
theorem C1:Good IJ:=⟨Tryz.func38,by kernel_rfl⟩
theorem Y3:IJ.rs=[.t 4]:=rfl
theorem ZR (hl:args.length≤123) (h:Run IJ K [.code T8] (Ao args) E σ):AQ Tryz.prog 38 args σ K:=
 AU (cx:=IJ) (code:=Tryz.f38.body.getD .skip) C1 (by kernel_rfl) Tryz.ntmps38 hl (AY IJ _ (As T8) _ [] (by kernel_rfl)) h
def Wn:C:=(.seq (.seq (.reg [Qm 6 5,
 Qm 7 0,
 Qo 8 (.len (.t 7)),
 Qo 9 (.bin .lss (.t 6) (.t 8)),
 Qm 10 9,
 ⟨some 11,.mv (.t 5),some (10,true)⟩,
 ⟨some 12,.mv (.t 1),some (10,true)⟩,
 ⟨some 13,.bin .leq (.t 11) (.t 12),some (10,true)⟩,
 Qo 14 (.pick (.t 10) (.t 13) (.c (.d (.bool false))))] [0,1,5,14])
 (.cond (.t 14) .skip
 (.exit 0)))
 (.seq (.block 1 (.seq (.reg [Qm 17 0,
 Qm 18 5,
 Qo 19 (.ix (.t 17) (.t 18) 1),
 Qo 20 (.ld (.t 19) none),
 Qo 21 (.Mm (.t 20)),
 Qo 22 (.bin .gtr (.t 21) (.c (.d (.int .i64 40))))] [0,1,5,22])
 (.cond (.t 22) (.seq (.reg [Qo 4 (.mv (.c (.d (.bool false))))] [4])
 .ret)
 .skip)))
 (.reg [Qm 15 5,
 Qo 16 (.bin .add (.t 15) (.c (.d (.int .i64 1)))),
 Qm 5 16] [0,1,5])))
def Ul:C:=(.seq (.reg [Qo 4 (.mv (.c (.d (.bool false))))] [0,1])
 (.seq (.seq (.reg [Qo 5 (.mv (.c (.d (.int .i64 0))))] [0,1,5])
 (.block 0 (.loop Wn)))
 (.seq (.reg [Qm 23 0,
 Qo 24 (.len (.t 23)),
 Qm 25 1,
 Qo 26 (.bin .leq (.t 24) (.t 25)),
 Qm 4 26] [4])
 .ret)))
noncomputable def Jg:Cx:=⟨Tryz.prog,39,Tryz.f39,27,[],[],[.t 4]⟩
theorem M5:Good Jg:=⟨Tryz.func39,by kernel_rfl⟩
theorem Z1:Jg.rs=[.t 4]:=rfl
theorem bE (hl:args.length≤27) (h:Run Jg K [.code Ul] (Ao args) E σ):AQ Tryz.prog 39 args σ K:=
 AU (cx:=Jg) (code:=Tryz.f39.body.getD .skip) M5 (by kernel_rfl) Tryz.ntmps39 hl (AY Jg _ (As Ul) _ [] (by kernel_rfl)) h
def Um:C:=(.seq (.seq (.reg [Qm 21 5,
 Qo 22 (.fld (.t 2) 2),
 Qo 23 (.ldl (.t 22) none),
 Qo 24 (.len (.t 23)),
 Qo 25 (.bin .lss (.t 21) (.t 24))] [1,2,5,25])
 (.cond (.t 25) .skip
 (.exit 0)))
 (.seq (.block 1 (.seq (.reg [Qo 28 (.fld (.t 2) 2),
 Qo 29 (.ldl (.t 28) none),
 Qm 30 5,
 Qo 31 (.ix (.t 29) (.t 30) 3),
 Qo 32 (.ld (.t 31) (some 3)),
 Qm 33 1,
 Qo 34 (.call 40 [(.t 32),(.t 33)]),
 Qo 35 (.un .not (.t 34))] [1,2,5,35])
 (.cond (.t 35) (.seq (.reg [Qo 4 (.mv (.c (.d (.bool false))))] [4])
 .ret)
 .skip)))
 (.reg [Qm 26 5,
 Qo 27 (.bin .add (.t 26) (.c (.d (.int .i64 1)))),
 Qm 5 27] [1,2,5])))
def Rj:C:=(.seq (.reg [Qo 2 (.box (.t 0) false),
 Qo 4 (.mv (.c (.d (.bool false))))] [1,2])
 (.seq (.reg [Qm 6 1,
 Qo 7 (.nck (.t 6)),
 Qo 8 (.ld (.t 7) none),
 Qo 9 (.bin .sub (.t 8) (.c (.d (.int .i64 1)))),
 Qo 10 (.nck (.t 6)),
 ⟨none,.st (.t 10) (.t 9) 1,none⟩] [1,2])
 (.seq (.seq (.reg [Qm 11 1,
 Qo 12 (.nck (.t 11)),
 Qo 13 (.ld (.t 12) none),
 Qo 14 (.bin .lss (.t 13) (.c (.d (.int .i64 0)))),
 Qm 15 14,
 ⟨some 16,.fld (.t 2) 1,some (15,false)⟩,
 ⟨some 17,.ldl (.t 16) none,some (15,false)⟩,
 ⟨some 18,.Mm (.t 17),some (15,false)⟩,
 ⟨some 19,.bin .gtr (.t 18) (.c (.d (.int .i64 40))),some (15,false)⟩,
 Qo 20 (.pick (.t 15) (.c (.d (.bool true))) (.t 19))] [1,2,20])
 (.cond (.t 20) (.seq (.reg [Qo 4 (.mv (.c (.d (.bool false))))] [4])
 .ret)
 .skip))
 (.seq (.seq (.reg [Qo 5 (.mv (.c (.d (.int .i64 0))))] [1,2,5])
 (.block 0 (.loop Um)))
 (.seq (.reg [Qo 4 (.mv (.c (.d (.bool true))))] [4])
 .ret)))))
noncomputable def HW:Cx:=⟨Tryz.prog,40,Tryz.f40,36,[300017,300023,300029],[],[.t 4]⟩
theorem HF:Good HW:=⟨Tryz.func40,by kernel_rfl⟩
theorem Wy:HW.rs=[.t 4]:=rfl
theorem Xx (hl:args.length≤36) (h:Run HW K [.code Rj] (Ao args) E σ):AQ Tryz.prog 40 args σ K:=
 AU (cx:=HW) (code:=Tryz.f40.body.getD .skip) HF (by kernel_rfl) Tryz.ntmps40 hl (AY HW _ (As Rj) _ [] (by kernel_rfl)) h
def Xl:C:=(.seq (.seq (.reg [Qm 40 5,
 Qo 41 (.fld (.t 2) 4),
 Qo 42 (.ldl (.t 41) none),
 Qo 43 (.len (.t 42)),
 Qo 44 (.bin .lss (.t 40) (.t 43))] [1,2,5,44])
 (.cond (.t 44) .skip
 (.exit 0)))
 (.seq (.block 1 (.seq (.reg [Qo 47 (.fld (.t 2) 4),
 Qo 48 (.ldl (.t 47) none),
 Qm 49 5,
 Qo 50 (.ix (.t 48) (.t 49) 6),
 Qo 51 (.ld (.t 50) (some 6)),
 Qm 52 1,
 Qo 53 (.call 41 [(.t 51),(.t 52)]),
 Qo 54 (.un .not (.t 53))] [1,2,5,54])
 (.cond (.t 54) (.seq (.reg [Qo 4 (.mv (.c (.d (.bool false))))] [4])
 .ret)
 .skip)))
 (.reg [Qm 45 5,
 Qo 46 (.bin .add (.t 45) (.c (.d (.int .i64 1)))),
 Qm 5 46] [1,2,5])))
def Xm:C:=(.seq (.seq (.reg [Qm 55 6,
 Qo 56 (.fld (.t 2) 5),
 Qo 57 (.ldl (.t 56) none),
 Qo 58 (.len (.t 57)),
 Qo 59 (.bin .lss (.t 55) (.t 58))] [1,2,6,59])
 (.cond (.t 59) .skip
 (.exit 2)))
 (.seq (.block 3 (.seq (.reg [Qo 62 (.fld (.t 2) 5),
 Qo 63 (.ldl (.t 62) none),
 Qm 64 6,
 Qo 65 (.ix (.t 63) (.t 64) 8),
 Qo 66 (.fld (.t 65) 0),
 Qo 67 (.ld (.t 66) none),
 Qo 68 (.Mm (.t 67)),
 Qo 69 (.bin .gtr (.t 68) (.c (.d (.int .i64 40)))),
 Qm 70 69,
 ⟨some 71,.fld (.t 2) 5,some (70,false)⟩,
 ⟨some 72,.ldl (.t 71) none,some (70,false)⟩,
 ⟨some 73,.mv (.t 6),some (70,false)⟩,
 ⟨some 74,.ix (.t 72) (.t 73) 8,some (70,false)⟩,
 ⟨some 75,.fld (.t 74) 1,some (70,false)⟩,
 ⟨some 76,.ld (.t 75) none,some (70,false)⟩,
 ⟨some 77,.call 39 [(.t 76),(.c (.d (.int .i64 10)))],some (70,false)⟩,
 ⟨some 78,.un .not (.t 77),some (70,false)⟩,
 Qo 79 (.pick (.t 70) (.c (.d (.bool true))) (.t 78)),
 Qm 80 79,
 ⟨some 81,.fld (.t 2) 5,some (80,false)⟩,
 ⟨some 82,.ldl (.t 81) none,some (80,false)⟩,
 ⟨some 83,.mv (.t 6),some (80,false)⟩,
 ⟨some 84,.ix (.t 82) (.t 83) 8,some (80,false)⟩,
 ⟨some 85,.fld (.t 84) 2,some (80,false)⟩,
 ⟨some 86,.ld (.t 85) (some 6),some (80,false)⟩,
 ⟨some 87,.mv (.t 1),some (80,false)⟩,
 ⟨some 88,.call 41 [(.t 86),(.t 87)],some (80,false)⟩,
 ⟨some 89,.un .not (.t 88),some (80,false)⟩,
 Qo 90 (.pick (.t 80) (.c (.d (.bool true))) (.t 89))] [1,2,6,90])
 (.cond (.t 90) (.seq (.reg [Qo 4 (.mv (.c (.d (.bool false))))] [4])
 .ret)
 .skip)))
 (.reg [Qm 60 6,
 Qo 61 (.bin .add (.t 60) (.c (.d (.int .i64 1)))),
 Qm 6 61] [1,2,6])))
def W2:C:=(.seq (.reg [Qo 2 (.box (.t 0) false),
 Qo 4 (.mv (.c (.d (.bool false))))] [1,2])
 (.seq (.reg [Qm 7 1,
 Qo 8 (.nck (.t 7)),
 Qo 9 (.ld (.t 8) none),
 Qo 10 (.bin .sub (.t 9) (.c (.d (.int .i64 1)))),
 Qo 11 (.nck (.t 7)),
 ⟨none,.st (.t 11) (.t 10) 1,none⟩] [1,2])
 (.seq (.seq (.reg [Qm 12 1,
 Qo 13 (.nck (.t 12)),
 Qo 14 (.ld (.t 13) none),
 Qo 15 (.bin .lss (.t 14) (.c (.d (.int .i64 0)))),
 Qm 16 15,
 ⟨some 17,.fld (.t 2) 1,some (16,false)⟩,
 ⟨some 18,.ldl (.t 17) none,some (16,false)⟩,
 ⟨some 19,.Mm (.t 18),some (16,false)⟩,
 ⟨some 20,.bin .gtr (.t 19) (.c (.d (.int .i64 40))),some (16,false)⟩,
 Qo 21 (.pick (.t 16) (.c (.d (.bool true))) (.t 20)),
 Qm 22 21,
 ⟨some 23,.fld (.t 2) 3,some (22,false)⟩,
 ⟨some 24,.ldl (.t 23) none,some (22,false)⟩,
 ⟨some 25,.call 39 [(.t 24),(.c (.d (.int .i64 10)))],some (22,false)⟩,
 ⟨some 26,.un .not (.t 25),some (22,false)⟩,
 Qo 27 (.pick (.t 22) (.c (.d (.bool true))) (.t 26)),
 Qm 28 27,
 ⟨some 29,.fld (.t 2) 4,some (28,false)⟩,
 ⟨some 30,.ldl (.t 29) none,some (28,false)⟩,
 ⟨some 31,.len (.t 30),some (28,false)⟩,
 ⟨some 32,.bin .gtr (.t 31) (.c (.d (.int .i64 10))),some (28,false)⟩,
 Qo 33 (.pick (.t 28) (.c (.d (.bool true))) (.t 32)),
 Qm 34 33,
 ⟨some 35,.fld (.t 2) 5,some (34,false)⟩,
 ⟨some 36,.ldl (.t 35) none,some (34,false)⟩,
 ⟨some 37,.len (.t 36),some (34,false)⟩,
 ⟨some 38,.bin .gtr (.t 37) (.c (.d (.int .i64 10))),some (34,false)⟩,
 Qo 39 (.pick (.t 34) (.c (.d (.bool true))) (.t 38))] [1,2,39])
 (.cond (.t 39) (.seq (.reg [Qo 4 (.mv (.c (.d (.bool false))))] [4])
 .ret)
 .skip))
 (.seq (.seq (.reg [Qo 5 (.mv (.c (.d (.int .i64 0))))] [1,2,5])
 (.block 0 (.loop Xl)))
 (.seq (.seq (.reg [Qo 6 (.mv (.c (.d (.int .i64 0))))] [1,2,6])
 (.block 2 (.loop Xm)))
 (.seq (.reg [Qo 4 (.mv (.c (.d (.bool true))))] [4])
 .ret))))))
noncomputable def Ld:Cx:=⟨Tryz.prog,41,Tryz.f41,91,[300018,300024,300030,300036,300042,300048,300057,300063,300072,300082],[],[.t 4]⟩
theorem Dy:Good Ld:=⟨Tryz.func41,by kernel_rfl⟩
theorem cF:Ld.rs=[.t 4]:=rfl
theorem dS (hl:args.length≤91) (h:Run Ld K [.code W2] (Ao args) E σ):AQ Tryz.prog 41 args σ K:=
 AU (cx:=Ld) (code:=Tryz.f41.body.getD .skip) Dy (by kernel_rfl) Tryz.ntmps41 hl (AY Ld _ (As W2) _ [] (by kernel_rfl)) h
def IV:C:=(.seq (.reg [Qo 18 (.bin .lss (.t 17) (.t 16))] [1,2,15,16,17,18])
 (.seq (.cond (.t 18) .skip
 (.exit 0))
 (.seq (.block 1 (.seq (.reg [Qm 19 17,
 Qo 20 (.ix (.t 15) (.t 17) 3),
 Qo 21 (.ld (.t 20) (some 3)),
 Qo 8 (.al [(.d (.str [])),.AW,.AW] false),
 Qm 7 19,
 ⟨none,.st (.t 8) (.t 21) 3,none⟩] [1,2,7,8,15,16,17])
 (.seq (.reg [Qm 22 1,
 Qm 23 7,
 Qo 24 (.ix (.t 22) (.t 23) 3),
 Qo 25 (.ld (.t 24) (some 3)),
 Qo 9 (.al [(.d (.str [])),.AW,.AW] false),
 ⟨none,.st (.t 9) (.t 25) 3,none⟩] [1,2,8,9,15,16,17])
 (.seq (.reg [Qm 26 2,
 Qo 27 (.ldl (.t 8) (some 3)),
 Qo 28 (.ldl (.t 9) (some 3)),
 Qo 29 (.DI (.t 26) [(.t 27),(.t 28)]),
 Qo 30 (.un .not (.t 29))] [1,2,15,16,17,30])
 (.cond (.t 30) (.seq (.reg [Qo 6 (.mv (.c (.d (.bool false))))] [6])
 .ret)
 .skip)))))
 (.reg [Qo 31 (.bin .add (.t 17) (.c (.d (.int .i64 1)))),
 Qm 17 31] [1,2,15,16,17]))))
def F5:C:=(.seq (.reg [Qo 6 (.mv (.c (.d (.bool false))))] [0,1,2])
 (.seq (.seq (.reg [Qm 10 0,
 Qo 11 (.len (.t 10)),
 Qm 12 1,
 Qo 13 (.len (.t 12)),
 Qo 14 (.bin .neq (.t 11) (.t 13))] [0,1,2,14])
 (.cond (.t 14) (.seq (.reg [Qo 6 (.mv (.c (.d (.bool false))))] [6])
 .ret)
 .skip))
 (.seq (.seq (.reg [Qm 15 0,
 Qo 16 (.len (.t 15)),
 Qo 17 (.mv (.c (.d (.int .i64 0))))] [1,2,15,16,17])
 (.block 0 (.loop IV)))
 (.seq (.reg [Qo 6 (.mv (.c (.d (.bool true))))] [6])
 .ret))))
noncomputable def B7:Cx:=⟨Tryz.prog,60,Tryz.f60,32,[300027,300028],[],[.t 6]⟩
theorem CP:Good B7:=⟨Tryz.func60,by kernel_rfl⟩
theorem J9:B7.rs=[.t 6]:=rfl
theorem Jj (hl:args.length≤32) (h:Run B7 K [.code F5] (Ao args) E σ):AQ Tryz.prog 60 args σ K:=
 AU (cx:=B7) (code:=Tryz.f60.body.getD .skip) CP (by kernel_rfl) Tryz.ntmps60 hl (AY B7 _ (As F5) _ [] (by kernel_rfl)) h
def Mu:C:=(.seq (.reg [Qo 2 (.box (.t 0) false),
 Qo 3 (.box (.t 1) false),
 Qo 4 (.mv (.c (.d (.bool false))))] [2,3])
 (.seq (.reg [Qo 5 (.fld (.t 2) 0),
 Qo 6 (.ldl (.t 5) none),
 Qo 7 (.fld (.t 3) 0),
 Qo 8 (.ldl (.t 7) none),
 Qo 9 (.bin .eql (.t 6) (.t 8)),
 Qm 10 9,
 ⟨some 11,.fld (.t 2) 1,some (10,true)⟩,
 ⟨some 12,.ldl (.t 11) none,some (10,true)⟩,
 ⟨some 13,.fld (.t 3) 1,some (10,true)⟩,
 ⟨some 14,.ldl (.t 13) none,some (10,true)⟩,
 ⟨some 15,.call 120 [(.t 12),(.t 14)],some (10,true)⟩,
 Qo 16 (.pick (.t 10) (.t 15) (.c (.d (.bool false)))),
 Qm 17 16,
 ⟨some 18,.fld (.t 2) 2,some (17,true)⟩,
 ⟨some 19,.ldl (.t 18) none,some (17,true)⟩,
 ⟨some 20,.fld (.t 3) 2,some (17,true)⟩,
 ⟨some 21,.ldl (.t 20) none,some (17,true)⟩,
 ⟨some 22,.call 121 [(.t 19),(.t 21),(.c (.fn 122 [] []))],some (17,true)⟩,
 Qo 23 (.pick (.t 17) (.t 22) (.c (.d (.bool false)))),
 Qm 4 23] [4])
 .ret))
noncomputable def Er:Cx:=⟨Tryz.prog,61,Tryz.f61,24,[300006,300008,300012,300014,300019,300021],[],[.t 4]⟩
theorem GN:Good Er:=⟨Tryz.func61,by kernel_rfl⟩
theorem TP:Er.rs=[.t 4]:=rfl
theorem UL (hl:args.length≤24) (h:Run Er K [.code Mu] (Ao args) E σ):AQ Tryz.prog 61 args σ K:=
 AU (cx:=Er) (code:=Tryz.f61.body.getD .skip) GN (by kernel_rfl) Tryz.ntmps61 hl (AY Er _ (As Mu) _ [] (by kernel_rfl)) h
def Iu:C:=(.seq (.reg [Qo 18 (.bin .lss (.t 17) (.t 16))] [1,2,15,16,17,18])
 (.seq (.cond (.t 18) .skip
 (.exit 0))
 (.seq (.block 1 (.seq (.reg [Qm 19 17,
 Qo 20 (.ix (.t 15) (.t 17) 8),
 Qo 21 (.ld (.t 20) (some 8)),
 Qo 8 (.al [(.d (.str [])),.AW,(.d (.int .i64 0)),(.d (.str [])),(.d (.int .i64 0)),.AW,.AW,.AW] false),
 Qm 7 19,
 ⟨none,.st (.t 8) (.t 21) 8,none⟩] [1,2,7,8,15,16,17])
 (.seq (.reg [Qm 22 1,
 Qm 23 7,
 Qo 24 (.ix (.t 22) (.t 23) 8),
 Qo 25 (.ld (.t 24) (some 8)),
 Qo 9 (.al [(.d (.str [])),.AW,(.d (.int .i64 0)),(.d (.str [])),(.d (.int .i64 0)),.AW,.AW,.AW] false),
 ⟨none,.st (.t 9) (.t 25) 8,none⟩] [1,2,8,9,15,16,17])
 (.seq (.reg [Qm 26 2,
 Qo 27 (.ldl (.t 8) (some 8)),
 Qo 28 (.ldl (.t 9) (some 8)),
 Qo 29 (.DI (.t 26) [(.t 27),(.t 28)]),
 Qo 30 (.un .not (.t 29))] [1,2,15,16,17,30])
 (.cond (.t 30) (.seq (.reg [Qo 6 (.mv (.c (.d (.bool false))))] [6])
 .ret)
 .skip)))))
 (.reg [Qo 31 (.bin .add (.t 17) (.c (.d (.int .i64 1)))),
 Qm 17 31] [1,2,15,16,17]))))
def Fe:C:=(.seq (.reg [Qo 6 (.mv (.c (.d (.bool false))))] [0,1,2])
 (.seq (.seq (.reg [Qm 10 0,
 Qo 11 (.len (.t 10)),
 Qm 12 1,
 Qo 13 (.len (.t 12)),
 Qo 14 (.bin .neq (.t 11) (.t 13))] [0,1,2,14])
 (.cond (.t 14) (.seq (.reg [Qo 6 (.mv (.c (.d (.bool false))))] [6])
 .ret)
 .skip))
 (.seq (.seq (.reg [Qm 15 0,
 Qo 16 (.len (.t 15)),
 Qo 17 (.mv (.c (.d (.int .i64 0))))] [1,2,15,16,17])
 (.block 0 (.loop Iu)))
 (.seq (.reg [Qo 6 (.mv (.c (.d (.bool true))))] [6])
 .ret))))
noncomputable def Be:Cx:=⟨Tryz.prog,62,Tryz.f62,32,[300027,300028],[],[.t 6]⟩
theorem C4:Good Be:=⟨Tryz.func62,by kernel_rfl⟩
theorem Jp:Be.rs=[.t 6]:=rfl
theorem K5 (hl:args.length≤32) (h:Run Be K [.code Fe] (Ao args) E σ):AQ Tryz.prog 62 args σ K:=
 AU (cx:=Be) (code:=Tryz.f62.body.getD .skip) C4 (by kernel_rfl) Tryz.ntmps62 hl (AY Be _ (As Fe) _ [] (by kernel_rfl)) h
def OC:C:=(.seq (.reg [Qo 2 (.box (.t 0) false),
 Qo 3 (.box (.t 1) false),
 Qo 4 (.mv (.c (.d (.bool false))))] [2,3])
 (.seq (.reg [Qo 5 (.fld (.t 2) 0),
 Qo 6 (.ldl (.t 5) none),
 Qo 7 (.fld (.t 3) 0),
 Qo 8 (.ldl (.t 7) none),
 Qo 9 (.bin .eql (.t 6) (.t 8)),
 Qm 10 9,
 ⟨some 11,.fld (.t 2) 1,some (10,true)⟩,
 ⟨some 12,.ldl (.t 11) none,some (10,true)⟩,
 ⟨some 13,.fld (.t 3) 1,some (10,true)⟩,
 ⟨some 14,.ldl (.t 13) none,some (10,true)⟩,
 ⟨some 15,.call 120 [(.t 12),(.t 14)],some (10,true)⟩,
 Qo 16 (.pick (.t 10) (.t 15) (.c (.d (.bool false)))),
 Qm 17 16,
 ⟨some 18,.fld (.t 2) 2,some (17,true)⟩,
 ⟨some 19,.ldl (.t 18) (some 6),some (17,true)⟩,
 ⟨some 20,.fld (.t 3) 2,some (17,true)⟩,
 ⟨some 21,.ldl (.t 20) (some 6),some (17,true)⟩,
 ⟨some 22,.call 123 [(.t 19),(.t 21)],some (17,true)⟩,
 Qo 23 (.pick (.t 17) (.t 22) (.c (.d (.bool false)))),
 Qm 4 23] [4])
 .ret))
noncomputable def FU:Cx:=⟨Tryz.prog,63,Tryz.f63,24,[300006,300008,300012,300014,300019,300021],[],[.t 4]⟩
theorem Gl:Good FU:=⟨Tryz.func63,by kernel_rfl⟩
theorem U2:FU.rs=[.t 4]:=rfl
theorem VG (hl:args.length≤24) (h:Run FU K [.code OC] (Ao args) E σ):AQ Tryz.prog 63 args σ K:=
 AU (cx:=FU) (code:=Tryz.f63.body.getD .skip) Gl (by kernel_rfl) Tryz.ntmps63 hl (AY FU _ (As OC) _ [] (by kernel_rfl)) h
def OQ:C:=(.seq (.reg [Qo 14 (.bin .lss (.t 13) (.t 12))] [0,1,12,13,14])
 (.seq (.cond (.t 14) .skip
 (.exit 0))
 (.seq (.block 1 (.seq (.reg [Qm 15 13,
 Qm 5 15] [0,1,5,12,13])
 (.seq (.reg [Qm 16 0,
 Qm 17 5,
 Qo 18 (.ix (.t 16) (.t 17) 1),
 Qo 19 (.ld (.t 18) none),
 Qm 20 1,
 Qm 21 5,
 Qo 22 (.ix (.t 20) (.t 21) 1),
 Qo 23 (.ld (.t 22) none),
 Qo 24 (.bin .neq (.t 19) (.t 23))] [0,1,12,13,24])
 (.cond (.t 24) (.seq (.reg [Qo 4 (.mv (.c (.d (.bool false))))] [4])
 .ret)
 .skip))))
 (.reg [Qo 25 (.bin .add (.t 13) (.c (.d (.int .i64 1)))),
 Qm 13 25] [0,1,12,13]))))
def Ju:C:=(.seq (.reg [Qo 4 (.mv (.c (.d (.bool false))))] [0,1])
 (.seq (.seq (.reg [Qm 6 0,
 Qo 7 (.len (.t 6)),
 Qm 8 1,
 Qo 9 (.len (.t 8)),
 Qo 10 (.bin .neq (.t 7) (.t 9))] [0,1,10])
 (.cond (.t 10) (.seq (.reg [Qo 4 (.mv (.c (.d (.bool false))))] [4])
 .ret)
 .skip))
 (.seq (.seq (.reg [Qm 11 0,
 Qo 12 (.len (.t 11)),
 Qo 13 (.mv (.c (.d (.int .i64 0))))] [0,1,12,13])
 (.block 0 (.loop OQ)))
 (.seq (.reg [Qo 4 (.mv (.c (.d (.bool true))))] [4])
 .ret))))
noncomputable def D6:Cx:=⟨Tryz.prog,120,Tryz.f120,26,[],[],[.t 4]⟩
theorem FA:Good D6:=⟨Tryz.func120,by kernel_rfl⟩
theorem QX:D6.rs=[.t 4]:=rfl
theorem Qy (hl:args.length≤26) (h:Run D6 K [.code Ju] (Ao args) E σ):AQ Tryz.prog 120 args σ K:=
 AU (cx:=D6) (code:=Tryz.f120.body.getD .skip) FA (by kernel_rfl) Tryz.ntmps120 hl (AY D6 _ (As Ju) _ [] (by kernel_rfl)) h
def It:C:=(.seq (.reg [Qo 18 (.bin .lss (.t 17) (.t 16))] [1,2,15,16,17,18])
 (.seq (.cond (.t 18) .skip
 (.exit 0))
 (.seq (.block 1 (.seq (.reg [Qm 19 17,
 Qo 20 (.ix (.t 15) (.t 17) 2),
 Qo 21 (.ld (.t 20) (some 2)),
 Qo 8 (.al [(.d (.str [])),.AW] false),
 Qm 7 19,
 ⟨none,.st (.t 8) (.t 21) 2,none⟩] [1,2,7,8,15,16,17])
 (.seq (.reg [Qm 22 1,
 Qm 23 7,
 Qo 24 (.ix (.t 22) (.t 23) 2),
 Qo 25 (.ld (.t 24) (some 2)),
 Qo 9 (.al [(.d (.str [])),.AW] false),
 ⟨none,.st (.t 9) (.t 25) 2,none⟩] [1,2,8,9,15,16,17])
 (.seq (.reg [Qm 26 2,
 Qo 27 (.ldl (.t 8) (some 2)),
 Qo 28 (.ldl (.t 9) (some 2)),
 Qo 29 (.DI (.t 26) [(.t 27),(.t 28)]),
 Qo 30 (.un .not (.t 29))] [1,2,15,16,17,30])
 (.cond (.t 30) (.seq (.reg [Qo 6 (.mv (.c (.d (.bool false))))] [6])
 .ret)
 .skip)))))
 (.reg [Qo 31 (.bin .add (.t 17) (.c (.d (.int .i64 1)))),
 Qm 17 31] [1,2,15,16,17]))))
def Fc:C:=(.seq (.reg [Qo 6 (.mv (.c (.d (.bool false))))] [0,1,2])
 (.seq (.seq (.reg [Qm 10 0,
 Qo 11 (.len (.t 10)),
 Qm 12 1,
 Qo 13 (.len (.t 12)),
 Qo 14 (.bin .neq (.t 11) (.t 13))] [0,1,2,14])
 (.cond (.t 14) (.seq (.reg [Qo 6 (.mv (.c (.d (.bool false))))] [6])
 .ret)
 .skip))
 (.seq (.seq (.reg [Qm 15 0,
 Qo 16 (.len (.t 15)),
 Qo 17 (.mv (.c (.d (.int .i64 0))))] [1,2,15,16,17])
 (.block 0 (.loop It)))
 (.seq (.reg [Qo 6 (.mv (.c (.d (.bool true))))] [6])
 .ret))))
noncomputable def Bd:Cx:=⟨Tryz.prog,121,Tryz.f121,32,[300027,300028],[],[.t 6]⟩
theorem C3:Good Bd:=⟨Tryz.func121,by kernel_rfl⟩
theorem Jo:Bd.rs=[.t 6]:=rfl
theorem K4 (hl:args.length≤32) (h:Run Bd K [.code Fc] (Ao args) E σ):AQ Tryz.prog 121 args σ K:=
 AU (cx:=Bd) (code:=Tryz.f121.body.getD .skip) C3 (by kernel_rfl) Tryz.ntmps121 hl (AY Bd _ (As Fc) _ [] (by kernel_rfl)) h
def OB:C:=(.seq (.reg [Qo 2 (.box (.t 0) false),
 Qo 3 (.box (.t 1) false),
 Qo 4 (.mv (.c (.d (.bool false))))] [2,3])
 (.seq (.reg [Qo 5 (.fld (.t 2) 0),
 Qo 6 (.ldl (.t 5) none),
 Qo 7 (.fld (.t 3) 0),
 Qo 8 (.ldl (.t 7) none),
 Qo 9 (.bin .eql (.t 6) (.t 8)),
 Qm 10 9,
 ⟨some 11,.fld (.t 2) 1,some (10,true)⟩,
 ⟨some 12,.ldl (.t 11) none,some (10,true)⟩,
 ⟨some 13,.fld (.t 3) 1,some (10,true)⟩,
 ⟨some 14,.ldl (.t 13) none,some (10,true)⟩,
 ⟨some 15,.call 161 [(.t 12),(.t 14),(.c (.fn 162 [] []))],some (10,true)⟩,
 Qo 16 (.pick (.t 10) (.t 15) (.c (.d (.bool false)))),
 Qm 4 16] [4])
 .ret))
noncomputable def FT:Cx:=⟨Tryz.prog,122,Tryz.f122,17,[300006,300008,300012,300014],[],[.t 4]⟩
theorem JV:Good FT:=⟨Tryz.func122,by kernel_rfl⟩
theorem U1:FT.rs=[.t 4]:=rfl
theorem VF (hl:args.length≤17) (h:Run FT K [.code OB] (Ao args) E σ):AQ Tryz.prog 122 args σ K:=
 AU (cx:=FT) (code:=Tryz.f122.body.getD .skip) JV (by kernel_rfl) Tryz.ntmps122 hl (AY FT _ (As OB) _ [] (by kernel_rfl)) h
def Mv:C:=(.seq (.reg [Qo 2 (.box (.t 0) false),
 Qo 3 (.box (.t 1) false),
 Qo 4 (.mv (.c (.d (.bool false))))] [2,3])
 (.seq (.reg [Qo 5 (.fld (.t 2) 0),
 Qo 6 (.ldl (.t 5) none),
 Qo 7 (.fld (.t 3) 0),
 Qo 8 (.ldl (.t 7) none),
 Qo 9 (.bin .eql (.t 6) (.t 8)),
 Qm 10 9,
 ⟨some 11,.fld (.t 2) 1,some (10,true)⟩,
 ⟨some 12,.ldl (.t 11) none,some (10,true)⟩,
 ⟨some 13,.fld (.t 3) 1,some (10,true)⟩,
 ⟨some 14,.ldl (.t 13) none,some (10,true)⟩,
 ⟨some 15,.bin .eql (.t 12) (.t 14),some (10,true)⟩,
 Qo 16 (.pick (.t 10) (.t 15) (.c (.d (.bool false)))),
 Qm 17 16,
 ⟨some 18,.fld (.t 2) 2,some (17,true)⟩,
 ⟨some 19,.ldl (.t 18) none,some (17,true)⟩,
 ⟨some 20,.fld (.t 3) 2,some (17,true)⟩,
 ⟨some 21,.ldl (.t 20) none,some (17,true)⟩,
 ⟨some 22,.bin .eql (.t 19) (.t 21),some (17,true)⟩,
 Qo 23 (.pick (.t 17) (.t 22) (.c (.d (.bool false)))),
 Qm 24 23,
 ⟨some 25,.fld (.t 2) 3,some (24,true)⟩,
 ⟨some 26,.ldl (.t 25) none,some (24,true)⟩,
 ⟨some 27,.fld (.t 3) 3,some (24,true)⟩,
 ⟨some 28,.ldl (.t 27) none,some (24,true)⟩,
 ⟨some 29,.call 120 [(.t 26),(.t 28)],some (24,true)⟩,
 Qo 30 (.pick (.t 24) (.t 29) (.c (.d (.bool false)))),
 Qm 31 30,
 ⟨some 32,.fld (.t 2) 4,some (31,true)⟩,
 ⟨some 33,.ldl (.t 32) none,some (31,true)⟩,
 ⟨some 34,.fld (.t 3) 4,some (31,true)⟩,
 ⟨some 35,.ldl (.t 34) none,some (31,true)⟩,
 ⟨some 36,.call 163 [(.t 33),(.t 35),(.c (.fn 123 [] []))],some (31,true)⟩,
 Qo 37 (.pick (.t 31) (.t 36) (.c (.d (.bool false)))),
 Qm 38 37,
 ⟨some 39,.fld (.t 2) 5,some (38,true)⟩,
 ⟨some 40,.ldl (.t 39) none,some (38,true)⟩,
 ⟨some 41,.fld (.t 3) 5,some (38,true)⟩,
 ⟨some 42,.ldl (.t 41) none,some (38,true)⟩,
 ⟨some 43,.call 164 [(.t 40),(.t 42),(.c (.fn 165 [] []))],some (38,true)⟩,
 Qo 44 (.pick (.t 38) (.t 43) (.c (.d (.bool false)))),
 Qm 4 44] [4])
 .ret))
noncomputable def Es:Cx:=⟨Tryz.prog,123,Tryz.f123,45,[300006,300008,300012,300014,300019,300021,300026,300028,300033,300035,300040,300042],[],[.t 4]⟩
theorem Cu:Good Es:=⟨Tryz.func123,by kernel_rfl⟩
theorem TQ:Es.rs=[.t 4]:=rfl
theorem UM (hl:args.length≤45) (h:Run Es K [.code Mv] (Ao args) E σ):AQ Tryz.prog 123 args σ K:=
 AU (cx:=Es) (code:=Tryz.f123.body.getD .skip) Cu (by kernel_rfl) Tryz.ntmps123 hl (AY Es _ (As Mv) _ [] (by kernel_rfl)) h
def Ku:C:=(.seq (.reg [Qo 2 (.mv (.c (.d (.str []))))] [0])
 (.seq (.reg [Qm 3 0,
 Qo 4 (.call 176 [(.t 3)]),
 Qm 2 4] [2])
 .ret))
noncomputable def ED:Cx:=⟨Tryz.prog,145,Tryz.f145,5,[],[],[.t 2]⟩
theorem LP:Good ED:=⟨Tryz.func145,by kernel_rfl⟩
theorem RR:ED.rs=[.t 2]:=rfl
theorem Rx (hl:args.length≤5) (h:Run ED K [.code Ku] (Ao args) E σ):AQ Tryz.prog 145 args σ K:=
 AU (cx:=ED) (code:=Tryz.f145.body.getD .skip) LP (by kernel_rfl) Tryz.ntmps145 hl (AY ED _ (As Ku) _ [] (by kernel_rfl)) h
def IW:C:=(.seq (.reg [Qo 18 (.bin .lss (.t 17) (.t 16))] [1,2,15,16,17,18])
 (.seq (.cond (.t 18) .skip
 (.exit 0))
 (.seq (.block 1 (.seq (.reg [Qm 19 17,
 Qo 20 (.ix (.t 15) (.t 17) 3),
 Qo 21 (.ld (.t 20) (some 3)),
 Qo 8 (.al [(.d (.int .i64 0)),(.d (.str [])),.AW] false),
 Qm 7 19,
 ⟨none,.st (.t 8) (.t 21) 3,none⟩] [1,2,7,8,15,16,17])
 (.seq (.reg [Qm 22 1,
 Qm 23 7,
 Qo 24 (.ix (.t 22) (.t 23) 3),
 Qo 25 (.ld (.t 24) (some 3)),
 Qo 9 (.al [(.d (.int .i64 0)),(.d (.str [])),.AW] false),
 ⟨none,.st (.t 9) (.t 25) 3,none⟩] [1,2,8,9,15,16,17])
 (.seq (.reg [Qm 26 2,
 Qo 27 (.ldl (.t 8) (some 3)),
 Qo 28 (.ldl (.t 9) (some 3)),
 Qo 29 (.DI (.t 26) [(.t 27),(.t 28)]),
 Qo 30 (.un .not (.t 29))] [1,2,15,16,17,30])
 (.cond (.t 30) (.seq (.reg [Qo 6 (.mv (.c (.d (.bool false))))] [6])
 .ret)
 .skip)))))
 (.reg [Qo 31 (.bin .add (.t 17) (.c (.d (.int .i64 1)))),
 Qm 17 31] [1,2,15,16,17]))))
def F6:C:=(.seq (.reg [Qo 6 (.mv (.c (.d (.bool false))))] [0,1,2])
 (.seq (.seq (.reg [Qm 10 0,
 Qo 11 (.len (.t 10)),
 Qm 12 1,
 Qo 13 (.len (.t 12)),
 Qo 14 (.bin .neq (.t 11) (.t 13))] [0,1,2,14])
 (.cond (.t 14) (.seq (.reg [Qo 6 (.mv (.c (.d (.bool false))))] [6])
 .ret)
 .skip))
 (.seq (.seq (.reg [Qm 15 0,
 Qo 16 (.len (.t 15)),
 Qo 17 (.mv (.c (.d (.int .i64 0))))] [1,2,15,16,17])
 (.block 0 (.loop IW)))
 (.seq (.reg [Qo 6 (.mv (.c (.d (.bool true))))] [6])
 .ret))))
noncomputable def B8:Cx:=⟨Tryz.prog,161,Tryz.f161,32,[300027,300028],[],[.t 6]⟩
theorem CQ:Good B8:=⟨Tryz.func161,by kernel_rfl⟩
theorem Ja:B8.rs=[.t 6]:=rfl
theorem Jk (hl:args.length≤32) (h:Run B8 K [.code F6] (Ao args) E σ):AQ Tryz.prog 161 args σ K:=
 AU (cx:=B8) (code:=Tryz.f161.body.getD .skip) CQ (by kernel_rfl) Tryz.ntmps161 hl (AY B8 _ (As F6) _ [] (by kernel_rfl)) h
def Mw:C:=(.seq (.reg [Qo 2 (.box (.t 0) false),
 Qo 3 (.box (.t 1) false),
 Qo 4 (.mv (.c (.d (.bool false))))] [2,3])
 (.seq (.reg [Qo 5 (.fld (.t 2) 0),
 Qo 6 (.ldl (.t 5) none),
 Qo 7 (.fld (.t 3) 0),
 Qo 8 (.ldl (.t 7) none),
 Qo 9 (.bin .eql (.t 6) (.t 8)),
 Qm 10 9,
 ⟨some 11,.fld (.t 2) 1,some (10,true)⟩,
 ⟨some 12,.ldl (.t 11) none,some (10,true)⟩,
 ⟨some 13,.fld (.t 3) 1,some (10,true)⟩,
 ⟨some 14,.ldl (.t 13) none,some (10,true)⟩,
 ⟨some 15,.bin .eql (.t 12) (.t 14),some (10,true)⟩,
 Qo 16 (.pick (.t 10) (.t 15) (.c (.d (.bool false)))),
 Qm 17 16,
 ⟨some 18,.fld (.t 2) 2,some (17,true)⟩,
 ⟨some 19,.ldl (.t 18) none,some (17,true)⟩,
 ⟨some 20,.fld (.t 3) 2,some (17,true)⟩,
 ⟨some 21,.ldl (.t 20) none,some (17,true)⟩,
 ⟨some 22,.call 161 [(.t 19),(.t 21),(.c (.fn 162 [] []))],some (17,true)⟩,
 Qo 23 (.pick (.t 17) (.t 22) (.c (.d (.bool false)))),
 Qm 4 23] [4])
 .ret))
noncomputable def Et:Cx:=⟨Tryz.prog,162,Tryz.f162,24,[300006,300008,300012,300014,300019,300021],[],[.t 4]⟩
theorem GO:Good Et:=⟨Tryz.func162,by kernel_rfl⟩
theorem TR:Et.rs=[.t 4]:=rfl
theorem UN (hl:args.length≤24) (h:Run Et K [.code Mw] (Ao args) E σ):AQ Tryz.prog 162 args σ K:=
 AU (cx:=Et) (code:=Tryz.f162.body.getD .skip) GO (by kernel_rfl) Tryz.ntmps162 hl (AY Et _ (As Mw) _ [] (by kernel_rfl)) h
def KY:C:=(.seq (.reg [Qo 18 (.bin .lss (.t 17) (.t 16))] [1,2,15,16,17,18])
 (.seq (.cond (.t 18) .skip
 (.exit 0))
 (.seq (.block 1 (.seq (.reg [Qm 19 17,
 Qo 20 (.ix (.t 15) (.t 17) 6),
 Qo 21 (.ld (.t 20) (some 6)),
 Qo 8 (.al [(.d (.int .i64 0)),(.d (.str [])),(.d (.int .i64 0)),.AW,.AW,.AW] false),
 Qm 7 19,
 ⟨none,.st (.t 8) (.t 21) 6,none⟩] [1,2,7,8,15,16,17])
 (.seq (.reg [Qm 22 1,
 Qm 23 7,
 Qo 24 (.ix (.t 22) (.t 23) 6),
 Qo 25 (.ld (.t 24) (some 6)),
 Qo 9 (.al [(.d (.int .i64 0)),(.d (.str [])),(.d (.int .i64 0)),.AW,.AW,.AW] false),
 ⟨none,.st (.t 9) (.t 25) 6,none⟩] [1,2,8,9,15,16,17])
 (.seq (.reg [Qm 26 2,
 Qo 27 (.ldl (.t 8) (some 6)),
 Qo 28 (.ldl (.t 9) (some 6)),
 Qo 29 (.DI (.t 26) [(.t 27),(.t 28)]),
 Qo 30 (.un .not (.t 29))] [1,2,15,16,17,30])
 (.cond (.t 30) (.seq (.reg [Qo 6 (.mv (.c (.d (.bool false))))] [6])
 .ret)
 .skip)))))
 (.reg [Qo 31 (.bin .add (.t 17) (.c (.d (.int .i64 1)))),
 Qm 17 31] [1,2,15,16,17]))))
def Ge:C:=(.seq (.reg [Qo 6 (.mv (.c (.d (.bool false))))] [0,1,2])
 (.seq (.seq (.reg [Qm 10 0,
 Qo 11 (.len (.t 10)),
 Qm 12 1,
 Qo 13 (.len (.t 12)),
 Qo 14 (.bin .neq (.t 11) (.t 13))] [0,1,2,14])
 (.cond (.t 14) (.seq (.reg [Qo 6 (.mv (.c (.d (.bool false))))] [6])
 .ret)
 .skip))
 (.seq (.seq (.reg [Qm 15 0,
 Qo 16 (.len (.t 15)),
 Qo 17 (.mv (.c (.d (.int .i64 0))))] [1,2,15,16,17])
 (.block 0 (.loop KY)))
 (.seq (.reg [Qo 6 (.mv (.c (.d (.bool true))))] [6])
 .ret))))
noncomputable def CH:Cx:=⟨Tryz.prog,163,Tryz.f163,32,[300027,300028],[],[.t 6]⟩
theorem DF:Good CH:=⟨Tryz.func163,by kernel_rfl⟩
theorem Lw:CH.rs=[.t 6]:=rfl
theorem M6 (hl:args.length≤32) (h:Run CH K [.code Ge] (Ao args) E σ):AQ Tryz.prog 163 args σ K:=
 AU (cx:=CH) (code:=Tryz.f163.body.getD .skip) DF (by kernel_rfl) Tryz.ntmps163 hl (AY CH _ (As Ge) _ [] (by kernel_rfl)) h
def Ks:C:=(.seq (.reg [Qo 18 (.bin .lss (.t 17) (.t 16))] [1,2,15,16,17,18])
 (.seq (.cond (.t 18) .skip
 (.exit 0))
 (.seq (.block 1 (.seq (.reg [Qm 19 17,
 Qo 20 (.ix (.t 15) (.t 17) 8),
 Qo 21 (.ld (.t 20) (some 8)),
 Qo 8 (.al [(.d (.str [])),.AW,(.d (.int .i64 0)),(.d (.str [])),(.d (.int .i64 0)),.AW,.AW,.AW] false),
 Qm 7 19,
 ⟨none,.st (.t 8) (.t 21) 8,none⟩] [1,2,7,8,15,16,17])
 (.seq (.reg [Qm 22 1,
 Qm 23 7,
 Qo 24 (.ix (.t 22) (.t 23) 8),
 Qo 25 (.ld (.t 24) (some 8)),
 Qo 9 (.al [(.d (.str [])),.AW,(.d (.int .i64 0)),(.d (.str [])),(.d (.int .i64 0)),.AW,.AW,.AW] false),
 ⟨none,.st (.t 9) (.t 25) 8,none⟩] [1,2,8,9,15,16,17])
 (.seq (.reg [Qm 26 2,
 Qo 27 (.ldl (.t 8) (some 8)),
 Qo 28 (.ldl (.t 9) (some 8)),
 Qo 29 (.DI (.t 26) [(.t 27),(.t 28)]),
 Qo 30 (.un .not (.t 29))] [1,2,15,16,17,30])
 (.cond (.t 30) (.seq (.reg [Qo 6 (.mv (.c (.d (.bool false))))] [6])
 .ret)
 .skip)))))
 (.reg [Qo 31 (.bin .add (.t 17) (.c (.d (.int .i64 1)))),
 Qm 17 31] [1,2,15,16,17]))))
def Gx:C:=(.seq (.reg [Qo 6 (.mv (.c (.d (.bool false))))] [0,1,2])
 (.seq (.seq (.reg [Qm 10 0,
 Qo 11 (.len (.t 10)),
 Qm 12 1,
 Qo 13 (.len (.t 12)),
 Qo 14 (.bin .neq (.t 11) (.t 13))] [0,1,2,14])
 (.cond (.t 14) (.seq (.reg [Qo 6 (.mv (.c (.d (.bool false))))] [6])
 .ret)
 .skip))
 (.seq (.seq (.reg [Qm 15 0,
 Qo 16 (.len (.t 15)),
 Qo 17 (.mv (.c (.d (.int .i64 0))))] [1,2,15,16,17])
 (.block 0 (.loop Ks)))
 (.seq (.reg [Qo 6 (.mv (.c (.d (.bool true))))] [6])
 .ret))))
noncomputable def CV:Cx:=⟨Tryz.prog,164,Tryz.f164,32,[300027,300028],[],[.t 6]⟩
theorem DK:Good CV:=⟨Tryz.func164,by kernel_rfl⟩
theorem Me:CV.rs=[.t 6]:=rfl
theorem NO (hl:args.length≤32) (h:Run CV K [.code Gx] (Ao args) E σ):AQ Tryz.prog 164 args σ K:=
 AU (cx:=CV) (code:=Tryz.f164.body.getD .skip) DK (by kernel_rfl) Tryz.ntmps164 hl (AY CV _ (As Gx) _ [] (by kernel_rfl)) h
def OA:C:=(.seq (.reg [Qo 2 (.box (.t 0) false),
 Qo 3 (.box (.t 1) false),
 Qo 4 (.mv (.c (.d (.bool false))))] [2,3])
 (.seq (.reg [Qo 5 (.fld (.t 2) 0),
 Qo 6 (.ldl (.t 5) none),
 Qo 7 (.fld (.t 3) 0),
 Qo 8 (.ldl (.t 7) none),
 Qo 9 (.bin .eql (.t 6) (.t 8)),
 Qm 10 9,
 ⟨some 11,.fld (.t 2) 1,some (10,true)⟩,
 ⟨some 12,.ldl (.t 11) none,some (10,true)⟩,
 ⟨some 13,.fld (.t 3) 1,some (10,true)⟩,
 ⟨some 14,.ldl (.t 13) none,some (10,true)⟩,
 ⟨some 15,.call 120 [(.t 12),(.t 14)],some (10,true)⟩,
 Qo 16 (.pick (.t 10) (.t 15) (.c (.d (.bool false)))),
 Qm 17 16,
 ⟨some 18,.fld (.t 2) 2,some (17,true)⟩,
 ⟨some 19,.ldl (.t 18) (some 6),some (17,true)⟩,
 ⟨some 20,.fld (.t 3) 2,some (17,true)⟩,
 ⟨some 21,.ldl (.t 20) (some 6),some (17,true)⟩,
 ⟨some 22,.call 123 [(.t 19),(.t 21)],some (17,true)⟩,
 Qo 23 (.pick (.t 17) (.t 22) (.c (.d (.bool false)))),
 Qm 4 23] [4])
 .ret))
noncomputable def FR:Cx:=⟨Tryz.prog,165,Tryz.f165,24,[300006,300008,300012,300014,300019,300021],[],[.t 4]⟩
theorem Gk:Good FR:=⟨Tryz.func165,by kernel_rfl⟩
theorem U0:FR.rs=[.t 4]:=rfl
theorem VE (hl:args.length≤24) (h:Run FR K [.code OA] (Ao args) E σ):AQ Tryz.prog 165 args σ K:=
 AU (cx:=FR) (code:=Tryz.f165.body.getD .skip) Gk (by kernel_rfl) Tryz.ntmps165 hl (AY FR _ (As OA) _ [] (by kernel_rfl)) h
def GC:C:=(.seq (.reg [Qo 2 (.mv (.c (.d (.str []))))] [0])
 (.seq (.seq (.reg [Qm 3 0] [3])
 (.cond (.t 3) (.seq (.reg [Qo 2 (.mv (.c (.d (.str [116,114,117,101]))))] [2])
 .ret)
 .skip))
 (.seq (.reg [Qo 2 (.mv (.c (.d (.str [102,97,108,115,101]))))] [2])
 .ret)))
noncomputable def Bp:Cx:=⟨Tryz.prog,176,Tryz.f176,4,[],[],[.t 2]⟩
theorem GG:Good Bp:=⟨Tryz.func176,by kernel_rfl⟩
theorem Ke:Bp.rs=[.t 2]:=rfl
theorem LZ (hl:args.length≤4) (h:Run Bp K [.code GC] (Ao args) E σ):AQ Tryz.prog 176 args σ K:=
 AU (cx:=Bp) (code:=Tryz.f176.body.getD .skip) GG (by kernel_rfl) Tryz.ntmps176 hl (AY Bp _ (As GC) _ [] (by kernel_rfl)) h
attribute [go_sem] PQ eX Y2 cE XA Wz Y4 Y3 Z1 Wy cF J9 TP Jp U2 QX Jo U1 TQ RR Ja TR Lw Me U0 Ke
end Go.Ab
