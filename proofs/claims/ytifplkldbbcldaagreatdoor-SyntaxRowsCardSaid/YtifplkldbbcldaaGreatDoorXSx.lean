/- Contracts of the library's functions, carried over to abstract states. What the cards of this seat share: the laid variables. Texts and expressions read out of memory. The compact codes of the functions of this seat, computed out of the translation. Conditions: none. -/
import Derived.Test.YtifplkldbbcldaaGreatDoorCards
import Derived.Test.YtifplkldbbcldaaGreatDoorTie
import Derived.LaidMore
import Derived.OpenShut
import Derived.Stop.Joined
import Derived.Stop.LaidErr
import Derived.Test.YtifplkldbbcldaaGreatDoorProg
import Derived.KernelRfl
import Derived.Test.YtifplkldbbcldaaGreatDoorXQo
set_option linter.unusedSimpArgs false
set_option linter.unusedVariables false
set_option maxRecDepth 4000
set_option maxHeartbeats 8000000
open Nat renaming lt_of_lt_of_le→UQ,le_trans→Ay,add_zero→E2
open List renaming getElem?_map→Aw,getElem?_eq_some_iff→A8,length_map→AE,mem_cons_self→Aa,mem_cons_of_mem→Ai
open Option renaming map_eq_some_iff→AK,isSome_iff_exists→WY,bind_some→B3
open Option.some renaming injEq→AP,inj→Gj
open Bool renaming and_eq_true→AL
namespace Go.Ab
open Go.RowKit Go.Sort Go.Proofs
theorem Rel.below {base:Nat} {g:Gh} {Pr:Nat→Prop} {σ:AN} {w0 w w':World} (h:Rel base g Pr σ w0 w) (hb:Below w.heap.size w w'):Rel base g Pr σ w0 w'∧KP Pr w w':=
 ⟨h.grow hb.size (fun b hlt _=>hb.block b hlt) ⟨hb.os,hb.tape,hb.output,hb.size,fun b hlt=>hb.block b (UQ hlt h.bs)⟩ (fun b hp=>⟨UQ (h.pr b hp).1 hb.size,.inl hp⟩),hb.size,fun b hp=>hb.block b (h.pr b hp).1⟩
def bys (s:List UInt8):ByteArray:=⟨s.toArray⟩
theorem cY (l:List (List UInt8)):(l.map bys).map (·.data.toList)=l:=by
 rw [List.map_map]
 conv=>rhs;rw [← List.map_id l]
 rfl
theorem jZ (l:List (List UInt8)) (sep:List UInt8) (σ:AN) (hN:l.length≤100000) (hlen:(Lib.join l sep).length≤100000000000000):
 AQ Tryz.prog 44 [.d (.sl (l.map D3)),.d (.str sep)] σ (fun v σ'=>v= .d (.str (Lib.join l sep))∧σ'=σ):=by
 intro base g Pr w0 w vs hr hv
 obtain ⟨v,u,rfl,h1,h2⟩:=hv.two
 have hlen':(Lib.join l sep).length≤maxLen:=Ay hlen (by decide+kernel)
 cases h2 with|d h2=>cases h2 with|str _=>
 have fin:∀w',Below w.heap.size w w'→∃v av g' σ',(Ending.returned (.string ⟨(Lib.join l sep).toArray⟩))=Ending.returned v∧VR g' av v∧Rel base g' Pr σ' w0 w'∧g.le g'∧KP Pr w w'∧av= .d (.str (Lib.join l sep))∧σ'=σ:=fun w' hb=>by
  obtain ⟨k1,k2⟩:=hr.below hb
  exact ⟨_,_,g,σ,rfl,.d (.str hlen'),k1,Gh.le_refl g,k2,rfl,rfl⟩
 cases l with
 |nil=>
  cases h1 with|d h1=>
  obtain ⟨a,cap,rfl,_⟩:=h1.KO
  refine Calls.mono (show Calls Tryz.prog 44 #[.slice a 0 cap,.string ⟨sep.toArray⟩] w _ from Any.strings_Join_none Tryz.kJ Tryz.N6 a cap ⟨sep.toArray⟩ w) ?_
  rintro e w' ⟨rfl,rfl⟩
  exact fin _ (Below.refl _ _)
 |cons x l=>
  cases h1 with|d h1=>
  generalize hrows:List.map D3 (x::l)=rows at h1
  cases h1 with
  |nil=>simp at hrows
  |@sl rows b off cap size f hc hm hs hi hrd=>
   subst hrows
   have hs1:size=1:=by
    have:=hs (D3 x) (by simp)
    simpa [D3] using this.symm
   subst hs1
   have hcell:∀(j:Nat) (y:ByteArray),((x::l).map bys)[j]?=some y→w.cell? ⟨b,off+j,none⟩=some (.string y):=by
    intro j y hy
    rw [Aw,AK] at hy
    obtain ⟨s,hsj,rfl⟩:=hy
    have hjl:j < ((x::l).map D3).length:=by
     have:=(A8.1 hsj).1
     simpa using this
    have h3:=hi j 0 hjl (by omega)
    have h4:=hrd j (D3 s) 0 (.str s) (by rw [Aw,hsj];rfl) rfl
    generalize f j 0=fv at h3 h4
    cases h4
    have:=hr.im _ _ _ h3
    rw [Nat.mul_one,E2] at this
    exact this
   have hbk:b < w.heap.size:=by
    have h3:=hi 0 0 (by simp) (by omega)
    exact hr.Rp h3
   have hc':((x::l).map bys).length≤cap:=by simpa using hc
   have hcon:=Any.strings_Join Tryz.kJ Tryz.N6 b off cap ((x::l).map bys) ⟨sep.toArray⟩ w hcell hbk (by simp at hN ⊢;omega) hc' (by rw [cY];simp only [List.toList_toArray];omega)
   rw [cY] at hcon
   rw [AE] at hcon ⊢
   refine Calls.mono hcon ?_
   rintro e w' ⟨rfl,hb⟩
   exact fin _ hb
def Sz:Array Value:=(Lib.pow10Tab.map fun z=>Value.int .u64 z).toArray
def Qq:Nat:=1
def Xa:Nat:=4
theorem Ve:Tryz.prog.globalNamed "internal/strconv.uint64pow10"=some Qq:=by kernel_rfl
theorem LM (n:Int) (σ:AN) (ht:σ.gt Qq=some Sz):AQ Tryz.prog 146 [.d (.int .i64 n),.d (.int .i64 10)] σ (fun v σ'=>v= .d (.str (Lib.itoa n))∧σ'=σ):=by
 refine AQ.vR (fun base g Pr w0 w vs hr hv=>?_)
 obtain ⟨v,u,rfl,hvv,hu⟩:=hv.two
 obtain ⟨rfl,h⟩:=hvv.Wu
 obtain ⟨rfl,_⟩:=hu.Wu
 have h0: -9223372036854775808≤n:=h.1
 have h1:n≤9223372036854775807:=h.2
 exact ⟨_,.str (by have:=Lib.itoa_length_le n h0 h1;have:(21:Nat)≤maxLen:=by decide+kernel
                   omega),Any.strconv_FormatInt_10 Tryz.qO n h0 h1 w (hr.tab Ve ht)⟩
theorem U9 {σ:AN} {i:Nat} {s:AV} {ty:TypeId} (hb:σ.blk i=some [.gp i 0,s]) (ht:σ.bt i=some (2,ty)):AQ Tryz.prog 85 [.gp i 0] σ (fun v σ'=>v= .tup []∧σ'=σ):=
 gK (fun b w h=>Any.Builder_copyCheck_used Tryz.kK Tryz.QO b w h) hb ht
theorem VRs.three {g:Gh} {c d e:AV} {vs:List Value} (h:VRs g [c,d,e] vs):∃v u x,vs=[v,u,x]∧VR g c v∧VR g d u∧VR g e x:=by
 cases h with|cons h hs=>obtain ⟨u,x,rfl,hu,hx⟩:=hs.two;exact ⟨_,_,_,rfl,h,hu,hx⟩
def eB (s:Str):Prop:=s=[]∨(s≠[]∧(∀x∈s,Bf Dt x=true)∧(FC s 0).isSome=true∧s.length≤20000)
theorem rK:∀(s:Str) (acc:Nat) (v:Int),(∀x∈s,Bf Dt x=true)→FC s (acc:Int)=some v→acc≤1000000→∃m:Nat,v=(m:Int)∧Lib.parseUintM (2 ^ 64 - 1) acc s= .ok m∧m≤1000000
 |[],acc,v,_,h,ha=>by
  simp only [FC,AP] at h
  exact ⟨acc,h.symm,rfl,ha⟩
 |b::r,acc,v,hd,h,ha=>by
  have hb:=hd b (Aa ..)
  simp only [Bf,Dt,AL,decide_eq_true_eq] at hb
  have hw:IntKind.u8.wrap ((b.toNat:Int) - 48)=((b.toNat - 48:Nat):Int):=by
   have h1:IntKind.u8.wrap ((b.toNat:Int) - 48)=((b.toNat:Int) - 48) % 256:=rfl
   rw [h1];omega
  rw [FC,hw] at h
  split at h
  · cases h
  · rename_i hle
    have e1:(acc:Int) * 10+((b.toNat - 48:Nat):Int)=((acc * 10+(b.toNat - 48):Nat):Int):=by omega
    rw [e1] at h hle
    obtain ⟨m,h1,h2,h3⟩:=rK r _ v (fun x hx=>hd x (Ai _ hx)) h (by omega)
    refine ⟨m,h1,?_,h3⟩
    rw [Lib.parseUintM,if_pos (by omega),if_neg (by omega),if_neg (by omega)]
    exact h2
theorem kX {s:Str} (hn:s≠[]) (hd:∀x∈s,Bf Dt x=true) (hv:(FC s 0).isSome=true):Lib.parseIntB 64 s= .ok (Qn s)∧0≤Qn s∧Qn s≤1000000:=by
 obtain ⟨v,hv⟩:=WY.1 hv
 obtain ⟨m,h1,h2,h3⟩:=rK s 0 v hd hv (by omega)
 have e:Qn s=(m:Int):=by rw [Qn,hv,← h1];rfl
 rw [e]
 refine ⟨?_,by omega,by omega⟩
 match s,hn with
 |c::r,_=>
  have hb:=hd c (Aa ..)
  simp only [Bf,Dt,AL,decide_eq_true_eq] at hb
  have hc:¬(c.toNat=43∨c.toNat=45):=by omega
  have h45:¬c.toNat=45:=by omega
  have h43:¬c.toNat=43:=by omega
  simp only [Lib.parseIntB,h43,or_self,if_false,Lib.parseUintB,List.cons_ne_nil,if_false,h2,h45,not_false_eq_true,true_and,false_and]
  rw [if_neg (by omega)]
theorem rI:Qn []=0:=rfl
theorem kW {s:Str} (h:eB s):0≤Qn s∧Qn s≤1000000:=by
 rcases h with rfl|⟨h1,h2,h3⟩
 · rw [rI];omega
 · exact (kX h1 h2 h3.1).2
theorem cP (s:Str) (σ:AN) (hs:eB s) (he:∃te pe,σ.gt Xa=some #[.iface te pe]):
 AQ Tryz.prog 215 [.d (.str s),.d (.int .i64 10),.d (.int .i64 64)] σ (fun v σ'=>v= .tup [.d (.int .i64 (Qn s)),.undef]∧σ'=σ):=by
 intro base g Pr w0 w vs hr hv
 obtain ⟨v,u,x,rfl,h1,h2,h3⟩:=hv.three
 cases h1 with|d h1=>cases h1 with|str hsl=>
 obtain ⟨rfl,_⟩:=h2.Wu
 obtain ⟨rfl,_⟩:=h3.Wu
 have hnum:IntKind.i64.has (Qn s):=by
  have:=kW hs
  exact ⟨by show (-9223372036854775808:Int)≤_;omega,by show _≤(9223372036854775807:Int);omega⟩
 have fin:∀(y:Value) (w':World),Below w.heap.size w w'→∃v av g' σ',(Ending.returned (.tuple #[.int .i64 (Qn s),y]))=Ending.returned v∧VR g' av v∧Rel base g' Pr σ' w0 w'∧g.le g'∧KP Pr w w'∧av= .tup [.d (.int .i64 (Qn s)),.undef]∧σ'=σ:=fun y w' hb=>by
  obtain ⟨k1,k2⟩:=hr.below hb
  refine ⟨_,_,g,σ,rfl,VR.tup (vs:=[.int .i64 (Qn s),y]) rfl (fun i c v hc hv=>?_),k1,Gh.le_refl g,k2,rfl,rfl⟩
  match i,hc,hv with
  |0,hc,hv=>simp at hc hv;subst hc hv;exact .d (.int hnum)
  |1,hc,hv=>simp at hc hv;subst hc;exact .undef
  |i+2,hc,hv=>simp at hc
 rcases hs with rfl|⟨g1,g2,g3⟩
 · obtain ⟨te,pe,hg⟩:=he
   obtain ⟨hlt,ty,fr,hc⟩:=hr.st.1 Xa _ hg
   have hcell:w.cell? ⟨Xa,0,none⟩=some (.iface te pe):=by
    unfold World.cell?
    rw [hr.bel.block Xa hlt,hc];rfl
   refine Calls.mono (Any.strconv_ParseInt_10_at64_syntax Tryz.dU ⟨#[]⟩ (by decide) rfl (.iface te pe) w hcell (.inr ⟨te,pe,rfl⟩)) ?_
   rintro e w' ⟨N,rfl,_,_,hb⟩
   exact fin _ w' hb
 · refine Calls.mono (Any.strconv_ParseInt_10_at64_ok Tryz.dU ⟨s.toArray⟩ (by rw [Tj];have:=g3.2;omega) (Qn s) (by simpa using (kX g1 g2 g3.1).1) w) ?_
   rintro e w' ⟨rfl,hw⟩
   refine fin _ w' ?_
   rcases hw with rfl|⟨t,rfl⟩
   · exact Below.refl _ _
   · exact Lib.bytesWorld_below _ _ _
end Go.Ab
namespace Go.Ab
open Go.Proofs
def gtT (te:TypeId) (pe:Value):Nat→Option (Array Value):=fun b=>if b=Qq then some Sz else if b=Xa then some #[.iface te pe] else none
theorem uF (te:TypeId) (pe:Value):(Lf (gtT te pe)).gt Qq=some Sz:=by simp [Lf,gtT]
theorem uE (te:TypeId) (pe:Value):∃te' pe',(Lf (gtT te pe)).gt Xa=some #[.iface te' pe']:=⟨te,pe,by simp [Lf,gtT,Qq,Xa]⟩
end Go.Ab
namespace Go.Proofs.YtifplkldbbcldaaGreatDoor
open Go.ChangeShapes Go.WideShapes Go.ChangeAt Go.RowKit
theorem Tryz.own:ownKnob Tryz.prog.godebug=none:=by kernel_rfl
theorem Tryz.laidOut:laidOutB Tryz.prog=true:=by kernel_rfl
def dT:List (String×DataW Unit):=[("math/bits.deBruijn32tab",Rows.laid_math_bits_deBruijn32tab),("math/bits.deBruijn64tab",Rows.laid_math_bits_deBruijn64tab),("internal/strconv.uint64pow10",Rows.laid_internal_strconv_uint64pow10),("strconv.ErrRange",Rows.laid_strconv_ErrRange),("strconv.ErrSyntax",Rows.laid_strconv_ErrSyntax)]
theorem rW:(Tryz.prog.globals[Go.Ab.Qq]?).map (·.type)=some 193:=by kernel_rfl
theorem Zi:Tryz.prog.globalNamed "strconv.ErrSyntax"=some Go.Ab.Xa:=by kernel_rfl
theorem pV:(Tryz.prog.globals[Go.Ab.Xa]?).map (·.type)=some 90:=by kernel_rfl
theorem dD: "*"++ "errors.errorString"= "*errors.errorString":=by decide
theorem uB (u:TypeId) (h:Tryz.prog.typeName? 3 u=some "*errors.errorString"):u=218:=
 typeName_ptr_named (nm:= "errors.errorString") (by rw [dD];kernel_rfl) (by kernel_rfl) (by decide) u (by rw [dD];exact h)
theorem pS (os:Os) (args:Array Value):laidMetH Tryz.prog dT ((World.doorLaid Tryz.prog 400 os).forCall (fun _ _=>0) ⟨#[],args,[]⟩).memory:=
 laidMetH_of_parts3 (fuel:=8) (laidMet_of_run' 8 (by kernel_rfl) (by kernel_rfl)) (by kernel_rfl) (by kernel_rfl)
theorem aM {W:World} {n:String} {g:Nat} {cs:Array Value} (hg:Tryz.prog.globalNamed n=some g) (h:W.var? Tryz.prog n=some cs):∃ty fr,W.heap[g]?=some (.cells cs ty fr):=by
 unfold World.var? at h
 rw [hg,B3] at h
 cases hh:W.heap[g]? with
 |none=>rw [hh] at h;cases h
 |some o=>
  rw [hh] at h
  cases o<;>try (cases h;done)
  rename_i vs ty fr
  have:vs=cs:=by simpa using h
  subst this
  exact ⟨ty,fr,rfl⟩
theorem uG {W:World} (h:laidMetH Tryz.prog dT W):∃te pe,∀b vs,Go.Ab.gtT te pe b=some vs→∃ty fr,W.heap[b]?=some (.cells vs ty fr):=by
 rw [MakeChecks.laidMetH_plain _ _ _ (by kernel_rfl)] at h
 obtain ⟨a,s,he,_⟩:=laid_sentinel (g:=Go.Ab.Xa) h.tail.tail.tail.tail Zi pV Tryz.underlying90 uB Tryz.underlying218 Tryz.underlying220 rfl rfl Tryz.underlying9 (by kernel_rfl) (by kernel_rfl)
 refine ⟨218,.pointer (some a),fun b vs hb=>?_⟩
 obtain ⟨ps,⟨g0,t0,cs0,f0,p0,q0,hg0,ht0,hv0,hd0,⟨g1,t1,cs1,f1,p1,q1,hg1,ht1,hv1,hd1,⟨g2,t2,cs2,f2,p2,q2,hg2,ht2,hv2,hd2,_,_⟩,_⟩,_⟩,_,_⟩:=h
 obtain rfl:=Gj (Go.Ab.Ve.symm.trans hg2)
 obtain rfl:=Gj (rW.symm.trans ht2)
 have hc:=Lib.cells_of_tab (k:= .u64) (zs:=Lib.pow10Tab) Tryz.underlying193 Tryz.underlying183 (by kernel_rfl) (by kernel_rfl) (show DataW.trod _ _ _ _ _ _ _ _ _=some (Lib.tabData .u64 Lib.pow10Tab,p2) from hd2)
 have hcs:cs2=Go.Ab.Sz:=by
  apply Array.toList_inj.1
  rw [hc];rfl
 unfold Go.Ab.gtT at hb
 split at hb
 · rename_i e
   subst e
   cases hb
   rw [hcs] at hv2
   exact aM Go.Ab.Ve hv2
 · split at hb
   · rename_i e
     subst e
     cases hb
     exact aM Zi he
   · cases hb
end Go.Proofs.YtifplkldbbcldaaGreatDoor
namespace Go.Ab
open Go.Proofs
theorem lQ {av:List AV} (h:XE Tryz.prog [9,9] av):∃s t:Str,av=[.d (.str s),.d (.str t)]:=by
 cases h with
 |cons h1 h=>
  cases h with
  |cons h2 h=>
   cases h
   obtain ⟨s,rfl,_⟩:=h1.kF Tryz.underlying9
   obtain ⟨t,rfl,_⟩:=h2.kF Tryz.underlying9
   exact ⟨s,t,by rw [XW Tryz.underlying9 (by simp),XW Tryz.underlying9 (by simp)]⟩
end Go.Ab
namespace Go.Ab
open Go.Proofs
variable {args:List AV} {σ:AN} {K:AV→AN→Prop}
def Tl:C:=(.seq (.reg [Qo 17 (.bin .lss (.t 16) (.t 15))] [1,3,14,15,16,17])
 (.seq (.cond (.t 17) .skip
 (.exit 0))
 (.seq (.block 1 (.seq (.reg [Qo 18 (.ix (.t 14) (.t 16) 3),
 Qo 19 (.ld (.t 18) (some 3)),
 Qo 5 (.al [(.d (.str [])),.AX,.AX] false),
 ⟨none,.st (.t 5) (.t 19) 3,none⟩] [1,3,5,14,15,16])
 (.reg [Qm 20 3,
 Qo 21 (.ldl (.t 5) (some 3)),
 Qo 22 (.call 42 [(.t 20),(.t 21)])] [1,3,14,15,16])))
 (.reg [Qo 23 (.bin .add (.t 16) (.c (.d (.int .i64 1)))),
 Qm 16 23] [1,3,14,15,16]))))
def Tm:C:=(.seq (.reg [Qo 28 (.bin .lss (.t 27) (.t 26))] [3,25,26,27,28])
 (.seq (.cond (.t 28) .skip
 (.exit 2))
 (.seq (.block 3 (.seq (.reg [Qo 29 (.ix (.t 25) (.t 27) 8),
 Qo 30 (.ld (.t 29) (some 8)),
 Qo 7 (.al [(.d (.str [])),.AX,(.d (.int .i64 0)),(.d (.str [])),(.d (.int .i64 0)),.AX,.AX,.AX] false),
 ⟨none,.st (.t 7) (.t 30) 8,none⟩] [3,7,25,26,27])
 (.seq (.reg [Qm 31 3,
 Qo 32 (.nck (.t 31)),
 Qo 33 (.fld (.t 32) 0),
 Qo 34 (.fld (.t 7) 0),
 Qo 35 (.ldl (.t 34) none),
 Qo 36 (.bin .add (.c (.d (.str [102,117,110,32]))) (.t 35)),
 Qo 37 (.bin .add (.t 36) (.c (.d (.str [40])))),
 Qo 38 (.fld (.t 7) 1),
 Qo 39 (.ldl (.t 38) none),
 Qo 40 (.call 44 [(.t 39),(.c (.d (.str [44,32])))]),
 Qo 41 (.bin .add (.t 37) (.t 40)),
 Qo 42 (.bin .add (.t 41) (.c (.d (.str [41,32,61,32])))),
 Qo 43 (.call 43 [(.t 33),(.t 42)])] [3,7,25,26,27])
 (.seq (.reg [Qm 44 3,
 Qo 45 (.fld (.t 7) 2),
 Qo 46 (.ldl (.t 45) (some 6)),
 Qo 47 (.call 45 [(.t 44),(.t 46),(.c (.d (.int .i64 0)))])] [3,25,26,27])
 (.reg [Qm 48 3,
 Qo 49 (.nck (.t 48)),
 Qo 50 (.fld (.t 49) 0),
 Qo 51 (.call 43 [(.t 50),(.c (.d (.str [59,10])))])] [3,25,26,27])))))
 (.reg [Qo 52 (.bin .add (.t 27) (.c (.d (.int .i64 1)))),
 Qm 27 52] [3,25,26,27]))))
def QP:C:=(.seq (.reg [Qo 1 (.box (.t 0) false),
 Qo 2 (.mv (.c (.d (.str []))))] [1])
 (.seq (.seq (.reg [Qo 8 (.ldl (.t 1) (some 2)),
 Qo 9 (.call 19 [(.t 8)]),
 Qo 10 (.un .not (.t 9))] [1,10])
 (.cond (.t 10) (.seq (.reg [Qo 2 (.mv (.c (.d (.str []))))] [2])
 .ret)
 .skip))
 (.seq (.reg [Qo 11 (.bld [.FF,.AX] []),
 Qo 12 (.ex (.cX 87 2) [(.t 11)]),
 Qm 3 12] [1,3])
 (.seq (.seq (.reg [Qo 13 (.fld (.t 1) 0),
 Qo 14 (.ldl (.t 13) none),
 Qo 15 (.len (.t 14)),
 Qo 16 (.mv (.c (.d (.int .i64 0))))] [1,3,14,15,16])
 (.block 0 (.loop Tl)))
 (.seq (.seq (.reg [Qo 24 (.fld (.t 1) 1),
 Qo 25 (.ldl (.t 24) none),
 Qo 26 (.len (.t 25)),
 Qo 27 (.mv (.c (.d (.int .i64 0))))] [3,25,26,27])
 (.block 2 (.loop Tm)))
 (.seq (.reg [Qm 53 3,
 Qo 54 (.nck (.t 53)),
 Qo 55 (.fld (.t 54) 0),
 Qo 56 (.call 46 [(.t 55)]),
 Qm 2 56] [2])
 .ret))))))
noncomputable def GW:Cx:=⟨Tryz.prog,17,Tryz.f17,57,[12,100012,300008,300014,300021,300025,300035,300039,300046],[],[.t 2]⟩
theorem LZ:Good GW:=⟨Tryz.func17,by kernel_rfl⟩
theorem Vh:GW.rs=[.t 2]:=rfl
theorem W3 (hl:args.length≤57) (h:Run GW K [.code QP] (Aq args) E σ):AQ Tryz.prog 17 args σ K:=
 AW (cx:=GW) (code:=Tryz.f17.body.getD .skip) LZ (by kernel_rfl) Tryz.ntmps17 hl (AZ GW _ (Av QP) _ [] (by kernel_rfl)) h
def Jf:C:=(.seq (.reg [Qo 2 (.box (.t 0) true),
 Qo 3 (.box (.t 1) false)] [2,3])
 (.seq (.reg [Qo 4 (.ld (.t 2) none),
 Qo 5 (.nck (.t 4)),
 Qo 6 (.fld (.t 5) 0),
 Qo 7 (.fld (.t 3) 0),
 Qo 8 (.ldl (.t 7) none),
 Qo 9 (.bin .add (.c (.d (.str [100,97,116,97,32]))) (.t 8)),
 Qo 10 (.call 43 [(.t 6),(.t 9)])] [2,3])
 (.seq (.reg [Qo 11 (.ld (.t 2) none),
 Qo 12 (.fld (.t 3) 1),
 Qo 13 (.ldl (.t 12) none),
 Qo 14 (.ld (.t 2) none),
 Qo 15 (.mkf 80 [(.t 14)] []),
 Qo 16 (.call 79 [(.t 11),(.t 13),(.t 15)])] [2,3])
 (.seq (.reg [Qo 17 (.ld (.t 2) none),
 Qo 18 (.nck (.t 17)),
 Qo 19 (.fld (.t 18) 0),
 Qo 20 (.call 43 [(.t 19),(.c (.d (.str [32,61,32])))])] [2,3])
 (.seq (.reg [Qo 21 (.ld (.t 2) none),
 Qo 22 (.fld (.t 3) 2),
 Qo 23 (.ldl (.t 22) none),
 Qo 24 (.mkf 82 [] [(.t 2)]),
 Qo 25 (.call 81 [(.t 21),(.c (.d (.str [32,124,32]))),(.t 23),(.t 24)])] [2])
 (.reg [Qo 26 (.ld (.t 2) none),
 Qo 27 (.nck (.t 26)),
 Qo 28 (.fld (.t 27) 0),
 Qo 29 (.call 43 [(.t 28),(.c (.d (.str [59,10])))])] []))))))
noncomputable def Db:Cx:=⟨Tryz.prog,42,Tryz.f42,30,[2,300008,300013,300023],[],[]⟩
theorem Jp:Good Db:=⟨Tryz.func42,by kernel_rfl⟩
theorem QC:Db.rs=[]:=rfl
theorem Qf (hl:args.length≤30) (h:Run Db K [.code Jf] (Aq args) E σ):AQ Tryz.prog 42 args σ K:=
 AW (cx:=Db) (code:=Tryz.f42.body.getD .skip) Jp (by kernel_rfl) Tryz.ntmps42 hl (AZ Db _ (Av Jf) _ [] (by kernel_rfl)) h
def Fq:C:=(.seq (.reg [Qo 4 (.mv (.c (.d (.int .i64 0)))),
 Qo 5 (.mv (.c .undef))] [0,1])
 (.seq (.reg [Qm 6 0,
 Qo 7 (.call 85 [(.t 6)])] [0,1])
 (.seq (.reg [Qm 8 0,
 Qm 9 0,
 Qo 10 (.nck (.t 9)),
 Qo 11 (.fld (.t 10) 1),
 Qo 12 (.ld (.t 11) none),
 Qm 13 1,
 Qo 14 (.ex (.apps 5) [(.t 12),(.t 13)]),
 Qo 15 (.nck (.t 8)),
 Qo 16 (.fld (.t 15) 1),
 ⟨none,.st (.t 16) (.t 14) 1,none⟩] [1])
 (.seq (.reg [Qm 17 1,
 Qo 18 (.J9 (.t 17)),
 Qm 4 18,
 Qo 5 (.mv (.c .undef))] [4,5])
 .ret))))
noncomputable def Bs:Cx:=⟨Tryz.prog,43,Tryz.f43,19,[],[],[.t 4,.t 5]⟩
theorem Fv:Good Bs:=⟨Tryz.func43,by kernel_rfl⟩
theorem KN:Bs.rs=[.t 4,.t 5]:=rfl
theorem LB (hl:args.length≤19) (h:Run Bs K [.code Fq] (Aq args) E σ):AQ Tryz.prog 43 args σ K:=
 AW (cx:=Bs) (code:=Tryz.f43.body.getD .skip) Fv (by kernel_rfl) Tryz.ntmps43 hl (AZ Bs _ (Av Fq) _ [] (by kernel_rfl)) h
def Jg:C:=(.seq (.reg [Qo 4 (.box (.t 1) false)] [0,2,4])
 (.seq (.seq (.reg [Qo 9 (.ldl (.t 4) (some 6)),
 Qo 10 (.call 87 [(.t 9)]),
 Qm 11 2,
 Qo 12 (.bin .lss (.t 10) (.t 11))] [0,4,12])
 (.cond (.t 12) (.seq (.reg [Qm 13 0,
 Qo 14 (.ldl (.t 4) (some 6)),
 Qo 15 (.call 88 [(.t 13),(.t 14)])] [])
 .ret)
 .skip))
 (.seq (.reg [Qo 16 (.fld (.t 4) 0),
 Qo 17 (.ldl (.t 16) none)] [0,4,17])
 (.block 0 (.seq (.seq (.reg [Qo 22 (.bin .eql (.t 17) (.c (.d (.int .i64 7)))),
 Qm 21 22] [0,4,17,21])
 (.cond (.t 21) .skip
 (.seq (.reg [Qo 23 (.bin .eql (.t 17) (.c (.d (.int .i64 8)))),
 Qm 21 23] [0,4,17,21])
 (.cond (.t 21) .skip
 (.seq (.reg [Qo 24 (.bin .eql (.t 17) (.c (.d (.int .i64 9)))),
 Qm 21 24] [0,4,17,21])
 (.cond (.t 21) .skip
 (.seq (.reg [Qo 25 (.bin .eql (.t 17) (.c (.d (.int .i64 10)))),
 Qm 21 25] [0,4,17,21])
 (.cond (.t 21) .skip
 (.seq (.reg [Qo 26 (.bin .eql (.t 17) (.c (.d (.int .i64 11)))),
 Qm 21 26] [0,4,17,21])
 (.cond (.t 21) .skip
 (.reg [Qo 27 (.bin .eql (.t 17) (.c (.d (.int .i64 17)))),
 Qm 21 27] [0,4,17,21])))))))))))
 (.cond (.t 21) (.reg [Qm 28 0,
 Qo 29 (.ldl (.t 4) (some 6)),
 Qo 30 (.call 89 [(.t 28),(.t 29)])] [])
 (.seq (.reg [Qo 32 (.bin .eql (.t 17) (.c (.d (.int .i64 13)))),
 Qm 31 32] [0,4,17,31])
 (.cond (.t 31) (.seq (.reg [Qo 34 (.fld (.t 4) 2),
 Qo 35 (.ldl (.t 34) none),
 Qo 36 (.call 90 [(.t 35)]),
 Qm 33 36,
 Qo 37 (.ext (.t 33) 0),
 Qo 38 (.ext (.t 33) 1),
 Qm 6 37,
 Qm 7 38] [0,4,6,7])
 (.seq (.reg [Qm 39 0,
 Qo 40 (.fld (.t 4) 4),
 Qo 41 (.ldl (.t 40) none),
 Qo 42 (.ix (.t 41) (.c (.d (.int .i64 0))) 6),
 Qo 43 (.ld (.t 42) (some 6)),
 Qm 44 6,
 Qo 45 (.call 45 [(.t 39),(.t 43),(.t 44)])] [0,4,7])
 (.seq (.reg [Qm 46 0,
 Qo 47 (.nck (.t 46)),
 Qo 48 (.fld (.t 47) 0),
 Qo 49 (.fld (.t 4) 2),
 Qo 50 (.ldl (.t 49) none),
 Qo 51 (.call 91 [(.t 50)]),
 Qo 52 (.bin .add (.c (.d (.str [32]))) (.t 51)),
 Qo 53 (.bin .add (.t 52) (.c (.d (.str [32])))),
 Qo 54 (.call 43 [(.t 48),(.t 53)])] [0,4,7])
 (.reg [Qm 55 0,
 Qo 56 (.fld (.t 4) 4),
 Qo 57 (.ldl (.t 56) none),
 Qo 58 (.ix (.t 57) (.c (.d (.int .i64 1))) 6),
 Qo 59 (.ld (.t 58) (some 6)),
 Qm 60 7,
 Qo 61 (.call 45 [(.t 55),(.t 59),(.t 60)])] []))))
 (.seq (.reg [Qo 63 (.bin .eql (.t 17) (.c (.d (.int .i64 12)))),
 Qm 62 63] [0,4,62])
 (.cond (.t 62) (.seq (.seq (.reg [Qo 64 (.fld (.t 4) 4),
 Qo 65 (.ldl (.t 64) none),
 Qo 66 (.ix (.t 65) (.c (.d (.int .i64 0))) 6),
 Qo 67 (.ld (.t 66) (some 6)),
 Qo 8 (.al [(.d (.int .i64 0)),(.d (.str [])),(.d (.int .i64 0)),.AX,.AX,.AX] false),
 ⟨none,.st (.t 8) (.t 67) 6,none⟩] [0,4,8])
 (.seq (.reg [Qo 68 (.fld (.t 8) 0),
 Qo 69 (.ldl (.t 68) none),
 Qo 70 (.bin .eql (.t 69) (.c (.d (.int .i64 6)))),
 Qm 71 70,
 ⟨some 72,.fld (.t 8) 4,some (71,true)⟩,
 ⟨some 73,.ldl (.t 72) none,some (71,true)⟩,
 ⟨some 74,.len (.t 73),some (71,true)⟩,
 ⟨some 75,.bin .eql (.t 74) (.c (.d (.int .i64 0))),some (71,true)⟩,
 Qo 76 (.pick (.t 71) (.t 75) (.c (.d (.bool false))))] [0,4,8,76])
 (.cond (.t 76) (.reg [Qm 77 0,
 Qo 78 (.ldl (.t 8) (some 6)),
 Qo 79 (.call 88 [(.t 77),(.t 78)])] [0,4])
 (.reg [Qm 80 0,
 Qo 81 (.ldl (.t 8) (some 6)),
 Qo 82 (.call 45 [(.t 80),(.t 81),(.c (.d (.int .i64 4)))])] [0,4]))))
 (.reg [Qm 83 0,
 Qo 84 (.fld (.t 4) 4),
 Qo 85 (.ldl (.t 84) none),
 Qo 86 (.sls (.t 85) (some (.c (.d (.int .i64 1)))) none none 6),
 Qo 87 (.call 92 [(.t 83),(.t 86)])] []))
 (.reg [Qm 18 0,
 Qo 19 (.ldl (.t 4) (some 6)),
 Qo 20 (.call 93 [(.t 18),(.t 19)])] [])))))))))))
noncomputable def Dc:Cx:=⟨Tryz.prog,45,Tryz.f45,88,[300009,300014,300017,300029,300035,300041,300050,300057,300065,300069,300073,300078,300081,300085,300019],[],[]⟩
theorem Bd:Good Dc:=⟨Tryz.func45,by kernel_rfl⟩
theorem QD:Dc.rs=[]:=rfl
theorem Ju (hl:args.length≤88) (h:Run Dc K [.code Jg] (Aq args) E σ):AQ Tryz.prog 45 args σ K:=
 AW (cx:=Dc) (code:=Tryz.f45.body.getD .skip) Bd (by kernel_rfl) Tryz.ntmps45 hl (AZ Dc _ (Av Jg) _ [] (by kernel_rfl)) h
def Hg:C:=(.seq (.reg [Qo 2 (.mv (.c (.d (.str []))))] [0])
 (.seq (.reg [Qm 3 0,
 Qo 4 (.nck (.t 3)),
 Qo 5 (.fld (.t 4) 1),
 Qo 6 (.ld (.t 5) none),
 Qo 7 (.ex .usd [(.t 6)]),
 Qm 8 0,
 Qo 9 (.nck (.t 8)),
 Qo 10 (.fld (.t 9) 1),
 Qo 11 (.ld (.t 10) none),
 Qo 12 (.len (.t 11)),
 Qo 13 (.ex (.fH 5) [(.t 7),(.t 12)]),
 Qm 2 13] [2])
 .ret))
noncomputable def Cm:Cx:=⟨Tryz.prog,46,Tryz.f46,14,[],[],[.t 2]⟩
theorem Ho:Good Cm:=⟨Tryz.func46,by kernel_rfl⟩
theorem NZ:Cm.rs=[.t 2]:=rfl
theorem Nu (hl:args.length≤14) (h:Run Cm K [.code Hg] (Aq args) E σ):AQ Tryz.prog 46 args σ K:=
 AW (cx:=Cm) (code:=Tryz.f46.body.getD .skip) Ho (by kernel_rfl) Tryz.ntmps46 hl (AZ Cm _ (Av Hg) _ [] (by kernel_rfl)) h
def Hl:C:=(.seq (.reg [Qm 6 1,
 Qo 7 (.len (.t 6)),
 Qo 8 (.bin .gtr (.t 7) (.c (.d (.int .i64 0))))] [0,1,2,8])
 (.cond (.t 8) (.seq (.reg [Qm 9 0,
 Qo 10 (.nck (.t 9)),
 Qo 11 (.fld (.t 10) 0),
 Qo 12 (.call 43 [(.t 11),(.c (.d (.str [40])))])] [0,1,2])
 (.seq (.reg [Qm 13 0,
 Qm 14 1,
 Qm 15 2,
 Qo 16 (.call 134 [(.t 13),(.c (.d (.str [44,32]))),(.t 14),(.t 15)])] [0])
 (.reg [Qm 17 0,
 Qo 18 (.nck (.t 17)),
 Qo 19 (.fld (.t 18) 0),
 Qo 20 (.call 43 [(.t 19),(.c (.d (.str [41])))])] [])))
 .skip))
noncomputable def Cr:Cx:=⟨Tryz.prog,79,Tryz.f79,21,[],[],[]⟩
theorem FV:Good Cr:=⟨Tryz.func79,by kernel_rfl⟩
theorem N4:Cr.rs=[]:=rfl
theorem Nz (hl:args.length≤21) (h:Run Cr K [.code Hl] (Aq args) E σ):AQ Tryz.prog 79 args σ K:=
 AW (cx:=Cr) (code:=Tryz.f79.body.getD .skip) FV (by kernel_rfl) Tryz.ntmps79 hl (AZ Cr _ (Av Hl) _ [] (by kernel_rfl)) h
def Jk:C:=(.reg [Qm 4 0,
 Qo 5 (.nck (.t 4)),
 Qo 6 (.fld (.t 5) 0),
 Qm 7 1,
 Qo 8 (.call 43 [(.t 6),(.t 7)])] [])
noncomputable def Dh:Cx:=⟨Tryz.prog,80,Tryz.f80,9,[],[],[]⟩
theorem Js:Good Dh:=⟨Tryz.func80,by kernel_rfl⟩
theorem QI:Dh.rs=[]:=rfl
theorem Qk (hl:args.length≤9) (h:Run Dh K [.code Jk] (Aq args) E σ):AQ Tryz.prog 80 args σ K:=
 AW (cx:=Dh) (code:=Tryz.f80.body.getD .skip) Js (by kernel_rfl) Tryz.ntmps80 hl (AZ Dh _ (Av Jk) _ [] (by kernel_rfl)) h
def Ih:C:=(.seq (.reg [Qo 13 (.bin .lss (.t 12) (.t 11))] [0,1,3,10,11,12,13])
 (.seq (.cond (.t 13) .skip
 (.exit 0))
 (.seq (.block 1 (.seq (.reg [Qm 14 12,
 Qo 15 (.ix (.t 10) (.t 12) 2),
 Qo 16 (.ld (.t 15) (some 2)),
 Qo 9 (.al [(.d (.str [])),.AX] false),
 Qm 8 14,
 ⟨none,.st (.t 9) (.t 16) 2,none⟩] [0,1,3,8,9,10,11,12])
 (.seq (.seq (.reg [Qm 17 8,
 Qo 18 (.bin .gtr (.t 17) (.c (.d (.int .i64 0))))] [0,1,3,9,10,11,12,18])
 (.cond (.t 18) (.reg [Qm 19 0,
 Qo 20 (.nck (.t 19)),
 Qo 21 (.fld (.t 20) 0),
 Qm 22 1,
 Qo 23 (.call 43 [(.t 21),(.t 22)])] [0,1,3,9,10,11,12])
 .skip))
 (.reg [Qm 24 3,
 Qo 25 (.ldl (.t 9) (some 2)),
 Qo 26 (.EU (.t 24) [(.t 25)])] [0,1,3,10,11,12]))))
 (.reg [Qo 27 (.bin .add (.t 12) (.c (.d (.int .i64 1)))),
 Qm 12 27] [0,1,3,10,11,12]))))
def F6:C:=(.seq (.reg [Qm 10 2,
 Qo 11 (.len (.t 10)),
 Qo 12 (.mv (.c (.d (.int .i64 0))))] [0,1,3,10,11,12])
 (.block 0 (.loop Ih)))
noncomputable def Bm:Cx:=⟨Tryz.prog,81,Tryz.f81,28,[300025],[],[]⟩
theorem Fa:Good Bm:=⟨Tryz.func81,by kernel_rfl⟩
theorem J8:Bm.rs=[]:=rfl
theorem KG (hl:args.length≤28) (h:Run Bm K [.code F6] (Aq args) E σ):AQ Tryz.prog 81 args σ K:=
 AW (cx:=Bm) (code:=Tryz.f81.body.getD .skip) Fa (by kernel_rfl) Tryz.ntmps81 hl (AZ Bm _ (Av F6) _ [] (by kernel_rfl)) h
def IX:C:=(.seq (.reg [Qo 2 (.box (.t 0) false)] [1,2])
 (.seq (.reg [Qo 3 (.ld (.t 1) none),
 Qo 4 (.nck (.t 3)),
 Qo 5 (.fld (.t 4) 0),
 Qo 6 (.fld (.t 2) 0),
 Qo 7 (.ldl (.t 6) none),
 Qo 8 (.call 43 [(.t 5),(.t 7)])] [1,2])
 (.reg [Qo 9 (.ld (.t 1) none),
 Qo 10 (.fld (.t 2) 1),
 Qo 11 (.ldl (.t 10) none),
 Qo 12 (.ld (.t 1) none),
 Qo 13 (.mkf 84 [(.t 12)] []),
 Qo 14 (.call 83 [(.t 9),(.t 11),(.t 13)])] [])))
noncomputable def DB:Cx:=⟨Tryz.prog,82,Tryz.f82,15,[300007,300011],[],[]⟩
theorem I4:Good DB:=⟨Tryz.func82,by kernel_rfl⟩
theorem OJ:DB.rs=[]:=rfl
theorem O7 (hl:args.length≤15) (h:Run DB K [.code IX] (Aq args) E σ):AQ Tryz.prog 82 args σ K:=
 AW (cx:=DB) (code:=Tryz.f82.body.getD .skip) I4 (by kernel_rfl) Tryz.ntmps82 hl (AZ DB _ (Av IX) _ [] (by kernel_rfl)) h
def F4:C:=(.seq (.reg [Qm 6 1,
 Qo 7 (.len (.t 6)),
 Qo 8 (.bin .gtr (.t 7) (.c (.d (.int .i64 0))))] [0,1,2,8])
 (.cond (.t 8) (.seq (.reg [Qm 9 0,
 Qo 10 (.nck (.t 9)),
 Qo 11 (.fld (.t 10) 0),
 Qo 12 (.call 43 [(.t 11),(.c (.d (.str [40])))])] [0,1,2])
 (.seq (.reg [Qm 13 0,
 Qm 14 1,
 Qm 15 2,
 Qo 16 (.call 135 [(.t 13),(.c (.d (.str [44,32]))),(.t 14),(.t 15)])] [0])
 (.reg [Qm 17 0,
 Qo 18 (.nck (.t 17)),
 Qo 19 (.fld (.t 18) 0),
 Qo 20 (.call 43 [(.t 19),(.c (.d (.str [41])))])] [])))
 .skip))
noncomputable def Bj:Cx:=⟨Tryz.prog,83,Tryz.f83,21,[],[],[]⟩
theorem Dn:Good Bj:=⟨Tryz.func83,by kernel_rfl⟩
theorem J6:Bj.rs=[]:=rfl
theorem KE (hl:args.length≤21) (h:Run Bj K [.code F4] (Aq args) E σ):AQ Tryz.prog 83 args σ K:=
 AW (cx:=Bj) (code:=Tryz.f83.body.getD .skip) Dn (by kernel_rfl) Tryz.ntmps83 hl (AZ Bj _ (Av F4) _ [] (by kernel_rfl)) h
def Kj:C:=(.seq (.reg [Qo 3 (.box (.t 1) false)] [0,3])
 (.seq (.reg [Qo 5 (.fld (.t 3) 0),
 Qo 6 (.ldl (.t 5) none)] [0,3,6])
 (.block 0 (.seq (.reg [Qo 20 (.bin .eql (.t 6) (.c (.d (.int .i64 1)))),
 Qm 19 20] [0,3,6,19])
 (.cond (.t 19) (.reg [Qm 21 0,
 Qo 22 (.nck (.t 21)),
 Qo 23 (.fld (.t 22) 0),
 Qo 24 (.call 43 [(.t 23),(.c (.d (.str [105,110,116])))])] [])
 (.seq (.reg [Qo 26 (.bin .eql (.t 6) (.c (.d (.int .i64 2)))),
 Qm 25 26] [0,3,6,25])
 (.cond (.t 25) (.reg [Qm 27 0,
 Qo 28 (.nck (.t 27)),
 Qo 29 (.fld (.t 28) 0),
 Qo 30 (.call 43 [(.t 29),(.c (.d (.str [98,111,111,108])))])] [])
 (.seq (.reg [Qo 32 (.bin .eql (.t 6) (.c (.d (.int .i64 3)))),
 Qm 31 32] [0,3,6,31])
 (.cond (.t 31) (.reg [Qm 33 0,
 Qo 34 (.nck (.t 33)),
 Qo 35 (.fld (.t 34) 0),
 Qo 36 (.call 43 [(.t 35),(.c (.d (.str [117,110,105,116])))])] [])
 (.seq (.reg [Qo 38 (.bin .eql (.t 6) (.c (.d (.int .i64 7)))),
 Qm 37 38] [0,3,6,37])
 (.cond (.t 37) (.seq (.reg [Qm 39 0,
 Qo 40 (.nck (.t 39)),
 Qo 41 (.fld (.t 40) 0),
 Qo 42 (.call 43 [(.t 41),(.c (.d (.str [97,114,114,97,121])))])] [0,3])
 (.reg [Qm 43 0,
 Qo 44 (.fld (.t 3) 2),
 Qo 45 (.ldl (.t 44) none),
 Qm 46 0,
 Qo 47 (.mkf 84 [(.t 46)] []),
 Qo 48 (.call 83 [(.t 43),(.t 45),(.t 47)])] []))
 (.seq (.reg [Qo 50 (.bin .eql (.t 6) (.c (.d (.int .i64 8)))),
 Qm 49 50] [0,3,6,49])
 (.cond (.t 49) (.seq (.reg [Qm 51 0,
 Qo 52 (.nck (.t 51)),
 Qo 53 (.fld (.t 52) 0),
 Qo 54 (.call 43 [(.t 53),(.c (.d (.str [114,101,102])))])] [0,3])
 (.reg [Qm 55 0,
 Qo 56 (.fld (.t 3) 2),
 Qo 57 (.ldl (.t 56) none),
 Qm 58 0,
 Qo 59 (.mkf 84 [(.t 58)] []),
 Qo 60 (.call 83 [(.t 55),(.t 57),(.t 59)])] []))
 (.seq (.reg [Qo 62 (.bin .eql (.t 6) (.c (.d (.int .i64 9)))),
 Qm 61 62] [0,3,61])
 (.cond (.t 61) (.seq (.reg [Qo 63 (.fld (.t 3) 2),
 Qo 64 (.ldl (.t 63) none),
 Qo 65 (.len (.t 64)),
 Qo 66 (.bin .sub (.t 65) (.c (.d (.int .i64 1)))),
 Qm 4 66] [0,3,4])
 (.seq (.reg [Qm 67 0,
 Qo 68 (.nck (.t 67)),
 Qo 69 (.fld (.t 68) 0),
 Qo 70 (.call 43 [(.t 69),(.c (.d (.str [102,110,40])))])] [0,3,4])
 (.seq (.reg [Qm 71 0,
 Qo 72 (.fld (.t 3) 2),
 Qo 73 (.ldl (.t 72) none),
 Qm 74 4,
 Qo 75 (.sls (.t 73) none (some (.t 74)) none 3),
 Qm 76 0,
 Qo 77 (.mkf 84 [(.t 76)] []),
 Qo 78 (.call 135 [(.t 71),(.c (.d (.str [44,32]))),(.t 75),(.t 77)])] [0,3,4])
 (.seq (.reg [Qm 79 0,
 Qo 80 (.nck (.t 79)),
 Qo 81 (.fld (.t 80) 0),
 Qo 82 (.call 43 [(.t 81),(.c (.d (.str [41,32,45,62,32])))])] [0,3,4])
 (.reg [Qm 83 0,
 Qo 84 (.fld (.t 3) 2),
 Qo 85 (.ldl (.t 84) none),
 Qm 86 4,
 Qo 87 (.ix (.t 85) (.t 86) 3),
 Qo 88 (.ld (.t 87) (some 3)),
 Qo 89 (.call 84 [(.t 83),(.t 88)])] [])))))
 (.seq (.reg [Qm 7 0,
 Qo 8 (.nck (.t 7)),
 Qo 9 (.fld (.t 8) 0),
 Qo 10 (.fld (.t 3) 1),
 Qo 11 (.ldl (.t 10) none),
 Qo 12 (.call 43 [(.t 9),(.t 11)])] [0,3])
 (.reg [Qm 13 0,
 Qo 14 (.fld (.t 3) 2),
 Qo 15 (.ldl (.t 14) none),
 Qm 16 0,
 Qo 17 (.mkf 84 [(.t 16)] []),
 Qo 18 (.call 83 [(.t 13),(.t 15),(.t 17)])] [])))))))))))))))))
noncomputable def EP:Cx:=⟨Tryz.prog,84,Tryz.f84,90,[300006,300045,300057,300064,300073,300085,300011,300015],[],[]⟩
theorem Bp:Good EP:=⟨Tryz.func84,by kernel_rfl⟩
theorem RG:EP.rs=[]:=rfl
theorem Rm (hl:args.length≤90) (h:Run EP K [.code Kj] (Aq args) E σ):AQ Tryz.prog 84 args σ K:=
 AW (cx:=EP) (code:=Tryz.f84.body.getD .skip) Bp (by kernel_rfl) Tryz.ntmps84 hl (AZ EP _ (Av Kj) _ [] (by kernel_rfl)) h
def RX:C:=(.seq (.reg [Qo 1 (.box (.t 0) false),
 Qo 2 (.mv (.c (.d (.int .i64 0))))] [1])
 (.seq (.block 0 (.seq (.seq (.reg [Qo 4 (.fld (.t 1) 0),
 Qo 5 (.ldl (.t 4) none),
 Qo 6 (.bin .eql (.t 5) (.c (.d (.int .i64 7)))),
 Qm 3 6] [1,3])
 (.cond (.t 3) .skip
 (.seq (.reg [Qo 7 (.fld (.t 1) 0),
 Qo 8 (.ldl (.t 7) none),
 Qo 9 (.bin .eql (.t 8) (.c (.d (.int .i64 8)))),
 Qm 3 9] [1,3])
 (.cond (.t 3) .skip
 (.seq (.reg [Qo 10 (.fld (.t 1) 0),
 Qo 11 (.ldl (.t 10) none),
 Qo 12 (.bin .eql (.t 11) (.c (.d (.int .i64 9)))),
 Qm 3 12] [1,3])
 (.cond (.t 3) .skip
 (.seq (.reg [Qo 13 (.fld (.t 1) 0),
 Qo 14 (.ldl (.t 13) none),
 Qo 15 (.bin .eql (.t 14) (.c (.d (.int .i64 10)))),
 Qm 3 15] [1,3])
 (.cond (.t 3) .skip
 (.seq (.reg [Qo 16 (.fld (.t 1) 0),
 Qo 17 (.ldl (.t 16) none),
 Qo 18 (.bin .eql (.t 17) (.c (.d (.int .i64 11)))),
 Qm 3 18] [1,3])
 (.cond (.t 3) .skip
 (.reg [Qo 19 (.fld (.t 1) 0),
 Qo 20 (.ldl (.t 19) none),
 Qo 21 (.bin .eql (.t 20) (.c (.d (.int .i64 17)))),
 Qm 3 21] [1,3])))))))))))
 (.cond (.t 3) (.seq (.reg [Qo 2 (.mv (.c (.d (.int .i64 0))))] [2])
 .ret)
 (.seq (.reg [Qo 23 (.fld (.t 1) 0),
 Qo 24 (.ldl (.t 23) none),
 Qo 25 (.bin .eql (.t 24) (.c (.d (.int .i64 13)))),
 Qm 22 25] [1,22])
 (.cond (.t 22) (.seq (.reg [Qo 26 (.fld (.t 1) 2),
 Qo 27 (.ldl (.t 26) none),
 Qo 28 (.call 138 [(.t 27)]),
 Qm 2 28] [2])
 .ret)
 (.seq (.reg [Qo 30 (.fld (.t 1) 0),
 Qo 31 (.ldl (.t 30) none),
 Qo 32 (.bin .eql (.t 31) (.c (.d (.int .i64 12)))),
 Qm 29 32] [29])
 (.cond (.t 29) (.seq (.reg [Qo 2 (.mv (.c (.d (.int .i64 4))))] [2])
 .ret)
 .skip)))))))
 (.seq (.reg [Qo 2 (.mv (.c (.d (.int .i64 5))))] [2])
 .ret)))
noncomputable def HR:Cx:=⟨Tryz.prog,87,Tryz.f87,33,[300005,300008,300011,300014,300017,300020,300024,300027,300031],[],[.t 2]⟩
theorem HB:Good HR:=⟨Tryz.func87,by kernel_rfl⟩
theorem Wh:HR.rs=[.t 2]:=rfl
theorem Xp (hl:args.length≤33) (h:Run HR K [.code RX] (Aq args) E σ):AQ Tryz.prog 87 args σ K:=
 AW (cx:=HR) (code:=Tryz.f87.body.getD .skip) HB (by kernel_rfl) Tryz.ntmps87 hl (AZ HR _ (Av RX) _ [] (by kernel_rfl)) h
def F5:C:=(.seq (.reg [Qo 3 (.box (.t 1) false)] [0,3])
 (.seq (.reg [Qm 4 0,
 Qo 5 (.nck (.t 4)),
 Qo 6 (.fld (.t 5) 0),
 Qo 7 (.call 43 [(.t 6),(.c (.d (.str [40])))])] [0,3])
 (.seq (.reg [Qm 8 0,
 Qo 9 (.ldl (.t 3) (some 6)),
 Qo 10 (.call 139 [(.t 8),(.t 9)])] [0])
 (.reg [Qm 11 0,
 Qo 12 (.nck (.t 11)),
 Qo 13 (.fld (.t 12) 0),
 Qo 14 (.call 43 [(.t 13),(.c (.d (.str [41])))])] []))))
noncomputable def Bl:Cx:=⟨Tryz.prog,88,Tryz.f88,15,[300009],[],[]⟩
theorem F9:Good Bl:=⟨Tryz.func88,by kernel_rfl⟩
theorem J7:Bl.rs=[]:=rfl
theorem KF (hl:args.length≤15) (h:Run Bl K [.code F5] (Aq args) E σ):AQ Tryz.prog 88 args σ K:=
 AW (cx:=Bl) (code:=Tryz.f88.body.getD .skip) F9 (by kernel_rfl) Tryz.ntmps88 hl (AZ Bl _ (Av F5) _ [] (by kernel_rfl)) h
def Q8:C:=(.seq (.reg [Qo 2 (.box (.t 0) true),
 Qo 3 (.box (.t 1) false)] [2,3])
 (.seq (.reg [Qo 4 (.fld (.t 3) 0),
 Qo 5 (.ldl (.t 4) none)] [2,3,5])
 (.block 0 (.seq (.seq (.reg [Qo 7 (.bin .eql (.t 5) (.c (.d (.int .i64 7)))),
 Qm 6 7] [2,3,5,6])
 (.cond (.t 6) .skip
 (.reg [Qo 8 (.bin .eql (.t 5) (.c (.d (.int .i64 8)))),
 Qm 6 8] [2,3,5,6])))
 (.cond (.t 6) (.seq (.reg [Qo 9 (.ld (.t 2) none),
 Qo 10 (.nck (.t 9)),
 Qo 11 (.fld (.t 10) 0),
 Qo 12 (.call 43 [(.t 11),(.c (.d (.str [108,101,116,32])))])] [2,3])
 (.seq (.seq (.reg [Qo 13 (.fld (.t 3) 0),
 Qo 14 (.ldl (.t 13) none),
 Qo 15 (.bin .eql (.t 14) (.c (.d (.int .i64 7))))] [2,3,15])
 (.cond (.t 15) (.reg [Qo 16 (.ld (.t 2) none),
 Qo 17 (.fld (.t 3) 1),
 Qo 18 (.ldl (.t 17) none),
 Qo 19 (.call 140 [(.t 16),(.t 18)])] [2,3])
 (.reg [Qo 20 (.ld (.t 2) none),
 Qo 21 (.fld (.t 3) 3),
 Qo 22 (.ldl (.t 21) none),
 Qo 23 (.ld (.t 2) none),
 Qo 24 (.mkf 140 [(.t 23)] []),
 Qo 25 (.call 79 [(.t 20),(.t 22),(.t 24)])] [2,3])))
 (.reg [Qo 26 (.ld (.t 2) none),
 Qo 27 (.fld (.t 3) 4),
 Qo 28 (.ldl (.t 27) none),
 Qo 29 (.ix (.t 28) (.c (.d (.int .i64 0))) 6),
 Qo 30 (.ld (.t 29) (some 6)),
 Qo 31 (.fld (.t 3) 4),
 Qo 32 (.ldl (.t 31) none),
 Qo 33 (.ix (.t 32) (.c (.d (.int .i64 1))) 6),
 Qo 34 (.ld (.t 33) (some 6)),
 Qo 35 (.call 141 [(.t 26),(.c (.d (.str [32,61,32]))),(.t 30),(.c (.d (.str [32,105,110,32]))),(.t 34),(.c (.d (.str [])))])] [])))
 (.seq (.reg [Qo 37 (.bin .eql (.t 5) (.c (.d (.int .i64 9)))),
 Qm 36 37] [2,3,5,36])
 (.cond (.t 36) (.seq (.reg [Qo 38 (.ld (.t 2) none),
 Qo 39 (.fld (.t 3) 4),
 Qo 40 (.ldl (.t 39) none),
 Qo 41 (.ix (.t 40) (.c (.d (.int .i64 0))) 6),
 Qo 42 (.ld (.t 41) (some 6)),
 Qo 43 (.fld (.t 3) 4),
 Qo 44 (.ldl (.t 43) none),
 Qo 45 (.ix (.t 44) (.c (.d (.int .i64 1))) 6),
 Qo 46 (.ld (.t 45) (some 6)),
 Qo 47 (.call 141 [(.t 38),(.c (.d (.str [105,102,32]))),(.t 42),(.c (.d (.str [32,116,104,101,110,32]))),(.t 46),(.c (.d (.str [32,101,108,115,101,32])))])] [2,3])
 (.reg [Qo 48 (.ld (.t 2) none),
 Qo 49 (.fld (.t 3) 4),
 Qo 50 (.ldl (.t 49) none),
 Qo 51 (.ix (.t 50) (.c (.d (.int .i64 2))) 6),
 Qo 52 (.ld (.t 51) (some 6)),
 Qo 53 (.call 139 [(.t 48),(.t 52)])] []))
 (.seq (.reg [Qo 55 (.bin .eql (.t 5) (.c (.d (.int .i64 10)))),
 Qm 54 55] [2,3,5,54])
 (.cond (.t 54) (.seq (.reg [Qo 56 (.ld (.t 2) none),
 Qo 57 (.nck (.t 56)),
 Qo 58 (.fld (.t 57) 0),
 Qo 59 (.call 43 [(.t 58),(.c (.d (.str [109,97,116,99,104,32])))])] [2,3])
 (.seq (.reg [Qo 60 (.ld (.t 2) none),
 Qo 61 (.fld (.t 3) 4),
 Qo 62 (.ldl (.t 61) none),
 Qo 63 (.ix (.t 62) (.c (.d (.int .i64 0))) 6),
 Qo 64 (.ld (.t 63) (some 6)),
 Qo 65 (.call 139 [(.t 60),(.t 64)])] [2,3])
 (.seq (.reg [Qo 66 (.ld (.t 2) none),
 Qo 67 (.nck (.t 66)),
 Qo 68 (.fld (.t 67) 0),
 Qo 69 (.call 43 [(.t 68),(.c (.d (.str [32,119,105,116,104,32])))])] [2,3])
 (.seq (.reg [Qo 70 (.ld (.t 2) none),
 Qo 71 (.fld (.t 3) 5),
 Qo 72 (.ldl (.t 71) none),
 Qo 73 (.mkf 143 [] [(.t 2)]),
 Qo 74 (.call 142 [(.t 70),(.c (.d (.str [32,124,32]))),(.t 72),(.t 73)])] [2])
 (.reg [Qo 75 (.ld (.t 2) none),
 Qo 76 (.nck (.t 75)),
 Qo 77 (.fld (.t 76) 0),
 Qo 78 (.call 43 [(.t 77),(.c (.d (.str [32,101,110,100])))])] [])))))
 (.seq (.reg [Qo 80 (.bin .eql (.t 5) (.c (.d (.int .i64 11)))),
 Qm 79 80] [2,3,5,79])
 (.cond (.t 79) (.seq (.SD (.one (Qo 84 (.fld (.t 3) 3))
 (.one (Qo 85 (.ldl (.t 84) none))
 (.alt (Qo 81 (.ld (.t 2) none))
 (.one (Qo 82 (.nck (.t 81)))
 (.one (Qo 83 (.fld (.t 82) 0))
 (.one (Qo 86 (.call 44 [(.t 85),(.c (.d (.str [44,32])))]))
 (.one (Qo 87 (.bin .add (.c (.d (.str [102,110,40]))) (.t 86)))
 (.one (Qo 88 (.bin .add (.t 87) (.c (.d (.str [41,32,45,62,32])))))
 (.one (Qo 89 (.call 43 [(.t 83),(.t 88)]))
 .done))))))
 (.alt (Qo 86 (.call 44 [(.t 85),(.c (.d (.str [44,32])))]))
 (.one (Qo 81 (.ld (.t 2) none))
 (.one (Qo 82 (.nck (.t 81)))
 (.one (Qo 83 (.fld (.t 82) 0))
 (.one (Qo 87 (.bin .add (.c (.d (.str [102,110,40]))) (.t 86)))
 (.one (Qo 88 (.bin .add (.t 87) (.c (.d (.str [41,32,45,62,32])))))
 (.one (Qo 89 (.call 43 [(.t 83),(.t 88)]))
 .done))))))
 .done)))) [2,3])
 (.reg [Qo 90 (.ld (.t 2) none),
 Qo 91 (.fld (.t 3) 4),
 Qo 92 (.ldl (.t 91) none),
 Qo 93 (.ix (.t 92) (.c (.d (.int .i64 0))) 6),
 Qo 94 (.ld (.t 93) (some 6)),
 Qo 95 (.call 139 [(.t 90),(.t 94)])] []))
 (.seq (.reg [Qo 97 (.bin .eql (.t 5) (.c (.d (.int .i64 17)))),
 Qm 96 97] [2,3,96])
 (.cond (.t 96) (.seq (.reg [Qo 98 (.ld (.t 2) none),
 Qo 99 (.nck (.t 98)),
 Qo 100 (.fld (.t 99) 0),
 Qo 101 (.call 43 [(.t 100),(.c (.d (.str [116,114,121,32])))])] [2,3])
 (.seq (.reg [Qo 102 (.ld (.t 2) none),
 Qo 103 (.fld (.t 3) 4),
 Qo 104 (.ldl (.t 103) none),
 Qo 105 (.ix (.t 104) (.c (.d (.int .i64 0))) 6),
 Qo 106 (.ld (.t 105) (some 6)),
 Qo 107 (.call 139 [(.t 102),(.t 106)])] [2,3])
 (.seq (.reg [Qo 108 (.ld (.t 2) none),
 Qo 109 (.nck (.t 108)),
 Qo 110 (.fld (.t 109) 0),
 Qo 111 (.call 43 [(.t 110),(.c (.d (.str [32,99,97,116,99,104,32])))])] [2,3])
 (.seq (.reg [Qo 112 (.ld (.t 2) none),
 Qo 113 (.fld (.t 3) 1),
 Qo 114 (.ldl (.t 113) none),
 Qo 115 (.call 140 [(.t 112),(.t 114)])] [2,3])
 (.seq (.reg [Qo 116 (.ld (.t 2) none),
 Qo 117 (.nck (.t 116)),
 Qo 118 (.fld (.t 117) 0),
 Qo 119 (.call 43 [(.t 118),(.c (.d (.str [32,45,62,32])))])] [2,3])
 (.seq (.reg [Qo 120 (.ld (.t 2) none),
 Qo 121 (.fld (.t 3) 4),
 Qo 122 (.ldl (.t 121) none),
 Qo 123 (.ix (.t 122) (.c (.d (.int .i64 1))) 6),
 Qo 124 (.ld (.t 123) (some 6)),
 Qo 125 (.call 139 [(.t 120),(.t 124)])] [2])
 (.reg [Qo 126 (.ld (.t 2) none),
 Qo 127 (.nck (.t 126)),
 Qo 128 (.fld (.t 127) 0),
 Qo 129 (.call 43 [(.t 128),(.c (.d (.str [32,101,110,100])))])] [])))))))
 .skip)))))))))))))
def RK:List (List Nat×PT):=[([2,3],.done),([2,3,5],.done),([2,3,5,6],.done),([2,3,5,6],.done),([2,3],.done),([2,3,15],.done),([2,3],.done),([2,3],.done),([],.done),([2,3,5,36],.done),([2,3],.done),([],.done),([2,3,5,54],.done),([2,3],.done),([2,3],.done),([2,3],.done),([2],.done),([],.done),([2,3,5,79],.done),([2,3],(.one 3 (.one 4 (.alt 0 (.one 1 (.one 2 (.one 5 (.one 6 (.one 7 (.one 8 .done)))))) (.alt 5 (.one 0 (.one 1 (.one 2 (.one 6 (.one 7 (.one 8 .done)))))) .done))))),([],.done),([2,3,96],.done),([2,3],.done),([2,3],.done),([2,3],.done),([2,3],.done),([2,3],.done),([2],.done),([],.done)]
noncomputable def De:Cx:=⟨Tryz.prog,89,Tryz.f89,130,[2,300005,300014,300018,300022,300028,300032,300040,300044,300050,300062,300072,300085,300092,300104,300114,300122],[],[]⟩
theorem CG:Good De:=⟨Tryz.func89,by kernel_rfl⟩
theorem QF:De.rs=[]:=rfl
theorem Qh (hl:args.length≤130) (h:Run De K [.code Q8] (Aq args) E σ):AQ Tryz.prog 89 args σ K:=
 AW (cx:=De) (code:=Tryz.f89.body.getD .skip) CG (by kernel_rfl) Tryz.ntmps89 hl (AZ De _ RK _ [] (by kernel_rfl)) h
def Iu:C:=(.seq (.reg [Qo 2 (.mv (.c (.d (.int .i64 0)))),
 Qo 3 (.mv (.c (.d (.int .i64 0))))] [0])
 (.seq (.reg [Qm 5 0,
 Qo 6 (.call 138 [(.t 5)]),
 Qm 4 6] [4])
 (.seq (.seq (.reg [Qm 7 4,
 Qo 8 (.bin .eql (.t 7) (.c (.d (.int .i64 1))))] [4,8])
 (.cond (.t 8) (.seq (.reg [Qo 2 (.mv (.c (.d (.int .i64 2)))),
 Qo 3 (.mv (.c (.d (.int .i64 2))))] [2,3])
 .ret)
 .skip))
 (.seq (.reg [Qm 9 4,
 Qm 10 4,
 Qo 11 (.bin .add (.t 10) (.c (.d (.int .i64 1)))),
 Qm 2 9,
 Qm 3 11] [2,3])
 .ret))))
noncomputable def DQ:Cx:=⟨Tryz.prog,90,Tryz.f90,12,[],[],[.t 2,.t 3]⟩
theorem JI:Good DQ:=⟨Tryz.func90,by kernel_rfl⟩
theorem Ot:DQ.rs=[.t 2,.t 3]:=rfl
theorem Pe (hl:args.length≤12) (h:Run DQ K [.code Iu] (Aq args) E σ):AQ Tryz.prog 90 args σ K:=
 AW (cx:=DQ) (code:=Tryz.f90.body.getD .skip) JI (by kernel_rfl) Tryz.ntmps90 hl (AZ DQ _ (Av Iu) _ [] (by kernel_rfl)) h
def Jh:C:=(.seq (.reg [Qm 4 0,
 Qo 5 (.nck (.t 4)),
 Qo 6 (.fld (.t 5) 0),
 Qo 7 (.call 43 [(.t 6),(.c (.d (.str [40])))])] [0,1])
 (.seq (.reg [Qm 8 0,
 Qm 9 1,
 Qm 10 0,
 Qo 11 (.mkf 139 [(.t 10)] []),
 Qo 12 (.call 144 [(.t 8),(.c (.d (.str [44,32]))),(.t 9),(.t 11)])] [0])
 (.reg [Qm 13 0,
 Qo 14 (.nck (.t 13)),
 Qo 15 (.fld (.t 14) 0),
 Qo 16 (.call 43 [(.t 15),(.c (.d (.str [41])))])] [])))
noncomputable def Dd:Cx:=⟨Tryz.prog,92,Tryz.f92,17,[],[],[]⟩
theorem Jq:Good Dd:=⟨Tryz.func92,by kernel_rfl⟩
theorem QE:Dd.rs=[]:=rfl
theorem Qg (hl:args.length≤17) (h:Run Dd K [.code Jh] (Aq args) E σ):AQ Tryz.prog 92 args σ K:=
 AW (cx:=Dd) (code:=Tryz.f92.body.getD .skip) Jq (by kernel_rfl) Tryz.ntmps92 hl (AZ Dd _ (Av Jh) _ [] (by kernel_rfl)) h
def Jj:C:=(.seq (.reg [Qo 3 (.box (.t 1) false)] [0,3])
 (.seq (.reg [Qo 6 (.fld (.t 3) 0),
 Qo 7 (.ldl (.t 6) none)] [0,3,7])
 (.block 0 (.seq (.reg [Qo 21 (.bin .eql (.t 7) (.c (.d (.int .i64 1)))),
 Qm 20 21] [0,3,7,20])
 (.cond (.t 20) (.reg [Qm 22 0,
 Qo 23 (.nck (.t 22)),
 Qo 24 (.fld (.t 23) 0),
 Qo 25 (.call 43 [(.t 24),(.c (.d (.str [40,41])))])] [])
 (.seq (.reg [Qo 27 (.bin .eql (.t 7) (.c (.d (.int .i64 2)))),
 Qm 26 27] [0,3,7,26])
 (.cond (.t 26) (.reg [Qm 28 0,
 Qo 29 (.nck (.t 28)),
 Qo 30 (.fld (.t 29) 0),
 Qo 31 (.fld (.t 3) 2),
 Qo 32 (.ldl (.t 31) none),
 Qo 33 (.bin .eql (.t 32) (.c (.d (.int .i64 1)))),
 Qo 34 (.call 145 [(.t 33)]),
 Qo 35 (.call 43 [(.t 30),(.t 34)])] [])
 (.seq (.reg [Qo 37 (.bin .eql (.t 7) (.c (.d (.int .i64 3)))),
 Qm 36 37] [0,3,7,36])
 (.cond (.t 36) (.reg [Qm 38 0,
 Qo 39 (.nck (.t 38)),
 Qo 40 (.fld (.t 39) 0),
 Qo 41 (.fld (.t 3) 2),
 Qo 42 (.ldl (.t 41) none),
 Qo 43 (.call 146 [(.t 42),(.c (.d (.int .i64 10)))]),
 Qo 44 (.call 43 [(.t 40),(.t 43)])] [])
 (.seq (.reg [Qo 46 (.bin .eql (.t 7) (.c (.d (.int .i64 5)))),
 Qm 45 46] [0,3,7,45])
 (.cond (.t 45) (.reg [Qm 47 0,
 Qo 48 (.fld (.t 3) 4),
 Qo 49 (.ldl (.t 48) none),
 Qo 50 (.call 92 [(.t 47),(.t 49)])] [])
 (.seq (.reg [Qo 52 (.bin .eql (.t 7) (.c (.d (.int .i64 14)))),
 Qm 51 52] [0,3,7,51])
 (.cond (.t 51) (.seq (.reg [Qo 54 (.fld (.t 3) 2),
 Qo 55 (.ldl (.t 54) none),
 Qo 56 (.call 147 [(.t 55)]),
 Qm 53 56,
 Qo 57 (.ext (.t 53) 0),
 Qo 58 (.ext (.t 53) 1),
 Qm 4 57,
 Qm 5 58] [0,3,4])
 (.seq (.reg [Qm 59 0,
 Qo 60 (.nck (.t 59)),
 Qo 61 (.fld (.t 60) 0),
 Qm 62 4,
 Qo 63 (.call 43 [(.t 61),(.t 62)])] [0,3])
 (.reg [Qm 64 0,
 Qo 65 (.fld (.t 3) 4),
 Qo 66 (.ldl (.t 65) none),
 Qo 67 (.call 92 [(.t 64),(.t 66)])] [])))
 (.seq (.reg [Qo 69 (.bin .eql (.t 7) (.c (.d (.int .i64 16)))),
 Qm 68 69] [0,3,7,68])
 (.cond (.t 68) (.seq (.reg [Qm 70 0,
 Qo 71 (.nck (.t 70)),
 Qo 72 (.fld (.t 71) 0),
 Qo 73 (.call 43 [(.t 72),(.c (.d (.str [114,97,105,115,101])))])] [0,3])
 (.reg [Qm 74 0,
 Qo 75 (.fld (.t 3) 4),
 Qo 76 (.ldl (.t 75) none),
 Qo 77 (.call 92 [(.t 74),(.t 76)])] []))
 (.seq (.reg [Qo 79 (.bin .eql (.t 7) (.c (.d (.int .i64 15)))),
 Qm 78 79] [0,3,78])
 (.cond (.t 78) (.reg [Qm 80 0,
 Qo 81 (.nck (.t 80)),
 Qo 82 (.fld (.t 81) 0),
 Qo 83 (.fld (.t 3) 2),
 Qo 84 (.ldl (.t 83) none),
 Qo 85 (.call 146 [(.t 84),(.c (.d (.int .i64 10)))]),
 Qo 86 (.bin .add (.c (.d (.str [116,105,99,107,40]))) (.t 85)),
 Qo 87 (.bin .add (.t 86) (.c (.d (.str [41])))),
 Qo 88 (.call 43 [(.t 82),(.t 87)])] [])
 (.seq (.reg [Qm 8 0,
 Qo 9 (.nck (.t 8)),
 Qo 10 (.fld (.t 9) 0),
 Qo 11 (.fld (.t 3) 1),
 Qo 12 (.ldl (.t 11) none),
 Qo 13 (.call 43 [(.t 10),(.t 12)])] [0,3])
 (.reg [Qm 14 0,
 Qo 15 (.fld (.t 3) 4),
 Qo 16 (.ldl (.t 15) none),
 Qm 17 0,
 Qo 18 (.mkf 139 [(.t 17)] []),
 Qo 19 (.call 148 [(.t 14),(.t 16),(.t 18)])] [])))))))))))))))))))
noncomputable def Dg:Cx:=⟨Tryz.prog,93,Tryz.f93,89,[300007,300032,300042,300049,300055,300066,300076,300084,300012,300016],[],[]⟩
theorem BN:Good Dg:=⟨Tryz.func93,by kernel_rfl⟩
theorem QH:Dg.rs=[]:=rfl
theorem Qj (hl:args.length≤89) (h:Run Dg K [.code Jj] (Aq args) E σ):AQ Tryz.prog 93 args σ K:=
 AW (cx:=Dg) (code:=Tryz.f93.body.getD .skip) BN (by kernel_rfl) Tryz.ntmps93 hl (AZ Dg _ (Av Jj) _ [] (by kernel_rfl)) h
def LY:C:=(.seq (.reg [Qo 13 (.bin .lss (.t 12) (.t 11))] [0,1,3,10,11,12,13])
 (.seq (.cond (.t 13) .skip
 (.exit 0))
 (.seq (.block 1 (.seq (.reg [Qm 14 12,
 Qo 15 (.ix (.t 10) (.t 12) 1),
 Qo 16 (.ld (.t 15) none),
 Qm 8 14,
 Qm 9 16] [0,1,3,8,9,10,11,12])
 (.seq (.seq (.reg [Qm 17 8,
 Qo 18 (.bin .gtr (.t 17) (.c (.d (.int .i64 0))))] [0,1,3,9,10,11,12,18])
 (.cond (.t 18) (.reg [Qm 19 0,
 Qo 20 (.nck (.t 19)),
 Qo 21 (.fld (.t 20) 0),
 Qm 22 1,
 Qo 23 (.call 43 [(.t 21),(.t 22)])] [0,1,3,9,10,11,12])
 .skip))
 (.reg [Qm 24 3,
 Qm 25 9,
 Qo 26 (.EU (.t 24) [(.t 25)])] [0,1,3,10,11,12]))))
 (.reg [Qo 27 (.bin .add (.t 12) (.c (.d (.int .i64 1)))),
 Qm 12 27] [0,1,3,10,11,12]))))
def H3:C:=(.seq (.reg [Qm 10 2,
 Qo 11 (.len (.t 10)),
 Qo 12 (.mv (.c (.d (.int .i64 0))))] [0,1,3,10,11,12])
 (.block 0 (.loop LY)))
noncomputable def Cf:Cx:=⟨Tryz.prog,134,Tryz.f134,28,[],[],[]⟩
theorem H6:Good Cf:=⟨Tryz.func134,by kernel_rfl⟩
theorem ND:Cf.rs=[]:=rfl
theorem NY (hl:args.length≤28) (h:Run Cf K [.code H3] (Aq args) E σ):AQ Tryz.prog 134 args σ K:=
 AW (cx:=Cf) (code:=Tryz.f134.body.getD .skip) H6 (by kernel_rfl) Tryz.ntmps134 hl (AZ Cf _ (Av H3) _ [] (by kernel_rfl)) h
def IK:C:=(.seq (.reg [Qo 13 (.bin .lss (.t 12) (.t 11))] [0,1,3,10,11,12,13])
 (.seq (.cond (.t 13) .skip
 (.exit 0))
 (.seq (.block 1 (.seq (.reg [Qm 14 12,
 Qo 15 (.ix (.t 10) (.t 12) 3),
 Qo 16 (.ld (.t 15) (some 3)),
 Qo 9 (.al [(.d (.int .i64 0)),(.d (.str [])),.AX] false),
 Qm 8 14,
 ⟨none,.st (.t 9) (.t 16) 3,none⟩] [0,1,3,8,9,10,11,12])
 (.seq (.seq (.reg [Qm 17 8,
 Qo 18 (.bin .gtr (.t 17) (.c (.d (.int .i64 0))))] [0,1,3,9,10,11,12,18])
 (.cond (.t 18) (.reg [Qm 19 0,
 Qo 20 (.nck (.t 19)),
 Qo 21 (.fld (.t 20) 0),
 Qm 22 1,
 Qo 23 (.call 43 [(.t 21),(.t 22)])] [0,1,3,9,10,11,12])
 .skip))
 (.reg [Qm 24 3,
 Qo 25 (.ldl (.t 9) (some 3)),
 Qo 26 (.EU (.t 24) [(.t 25)])] [0,1,3,10,11,12]))))
 (.reg [Qo 27 (.bin .add (.t 12) (.c (.d (.int .i64 1)))),
 Qm 12 27] [0,1,3,10,11,12]))))
def FZ:C:=(.seq (.reg [Qm 10 2,
 Qo 11 (.len (.t 10)),
 Qo 12 (.mv (.c (.d (.int .i64 0))))] [0,1,3,10,11,12])
 (.block 0 (.loop IK)))
noncomputable def Bc:Cx:=⟨Tryz.prog,135,Tryz.f135,28,[300025],[],[]⟩
theorem F1:Good Bc:=⟨Tryz.func135,by kernel_rfl⟩
theorem JV:Bc.rs=[]:=rfl
theorem J3 (hl:args.length≤28) (h:Run Bc K [.code FZ] (Aq args) E σ):AQ Tryz.prog 135 args σ K:=
 AW (cx:=Bc) (code:=Tryz.f135.body.getD .skip) F1 (by kernel_rfl) Tryz.ntmps135 hl (AZ Bc _ (Av FZ) _ [] (by kernel_rfl)) h
def Ji:C:=(.seq (.reg [Qo 3 (.box (.t 1) false)] [0,3])
 (.reg [Qm 4 0,
 Qo 5 (.ldl (.t 3) (some 6)),
 Qo 6 (.call 45 [(.t 4),(.t 5),(.c (.d (.int .i64 0)))])] []))
noncomputable def Df:Cx:=⟨Tryz.prog,139,Tryz.f139,7,[300005],[],[]⟩
theorem Jr:Good Df:=⟨Tryz.func139,by kernel_rfl⟩
theorem QG:Df.rs=[]:=rfl
theorem Qi (hl:args.length≤7) (h:Run Df K [.code Ji] (Aq args) E σ):AQ Tryz.prog 139 args σ K:=
 AW (cx:=Df) (code:=Tryz.f139.body.getD .skip) Jr (by kernel_rfl) Tryz.ntmps139 hl (AZ Df _ (Av Ji) _ [] (by kernel_rfl)) h
def Je:C:=(.seq (.seq (.reg [Qm 4 1,
 Qo 5 (.bin .eql (.t 4) (.c (.d (.str []))))] [0,1,5])
 (.cond (.t 5) (.reg [Qo 1 (.mv (.c (.d (.str [95]))))] [0,1])
 .skip))
 (.reg [Qm 6 0,
 Qo 7 (.nck (.t 6)),
 Qo 8 (.fld (.t 7) 0),
 Qm 9 1,
 Qo 10 (.call 43 [(.t 8),(.t 9)])] []))
noncomputable def Da:Cx:=⟨Tryz.prog,140,Tryz.f140,11,[],[],[]⟩
theorem G6:Good Da:=⟨Tryz.func140,by kernel_rfl⟩
theorem QB:Da.rs=[]:=rfl
theorem Qe (hl:args.length≤11) (h:Run Da K [.code Je] (Aq args) E σ):AQ Tryz.prog 140 args σ K:=
 AW (cx:=Da) (code:=Tryz.f140.body.getD .skip) G6 (by kernel_rfl) Tryz.ntmps140 hl (AZ Da _ (Av Je) _ [] (by kernel_rfl)) h
def JB:C:=(.seq (.reg [Qo 8 (.box (.t 2) false),
 Qo 10 (.box (.t 4) false)] [0,1,3,5,8,10])
 (.seq (.reg [Qm 12 0,
 Qo 13 (.nck (.t 12)),
 Qo 14 (.fld (.t 13) 0),
 Qm 15 1,
 Qo 16 (.call 43 [(.t 14),(.t 15)])] [0,3,5,8,10])
 (.seq (.reg [Qm 17 0,
 Qo 18 (.ldl (.t 8) (some 6)),
 Qo 19 (.call 139 [(.t 17),(.t 18)])] [0,3,5,10])
 (.seq (.reg [Qm 20 0,
 Qo 21 (.nck (.t 20)),
 Qo 22 (.fld (.t 21) 0),
 Qm 23 3,
 Qo 24 (.call 43 [(.t 22),(.t 23)])] [0,5,10])
 (.seq (.reg [Qm 25 0,
 Qo 26 (.ldl (.t 10) (some 6)),
 Qo 27 (.call 139 [(.t 25),(.t 26)])] [0,5])
 (.reg [Qm 28 0,
 Qo 29 (.nck (.t 28)),
 Qo 30 (.fld (.t 29) 0),
 Qm 31 5,
 Qo 32 (.call 43 [(.t 30),(.t 31)])] []))))))
noncomputable def DY:Cx:=⟨Tryz.prog,141,Tryz.f141,33,[300018,300026],[],[]⟩
theorem JK:Good DY:=⟨Tryz.func141,by kernel_rfl⟩
theorem Oz:DY.rs=[]:=rfl
theorem Pl (hl:args.length≤33) (h:Run DY K [.code JB] (Aq args) E σ):AQ Tryz.prog 141 args σ K:=
 AW (cx:=DY) (code:=Tryz.f141.body.getD .skip) JK (by kernel_rfl) Tryz.ntmps141 hl (AZ DY _ (Av JB) _ [] (by kernel_rfl)) h
def Kk:C:=(.seq (.reg [Qo 13 (.bin .lss (.t 12) (.t 11))] [0,1,3,10,11,12,13])
 (.seq (.cond (.t 13) .skip
 (.exit 0))
 (.seq (.block 1 (.seq (.reg [Qm 14 12,
 Qo 15 (.ix (.t 10) (.t 12) 8),
 Qo 16 (.ld (.t 15) (some 8)),
 Qo 9 (.al [(.d (.str [])),.AX,(.d (.int .i64 0)),(.d (.str [])),(.d (.int .i64 0)),.AX,.AX,.AX] false),
 Qm 8 14,
 ⟨none,.st (.t 9) (.t 16) 8,none⟩] [0,1,3,8,9,10,11,12])
 (.seq (.seq (.reg [Qm 17 8,
 Qo 18 (.bin .gtr (.t 17) (.c (.d (.int .i64 0))))] [0,1,3,9,10,11,12,18])
 (.cond (.t 18) (.reg [Qm 19 0,
 Qo 20 (.nck (.t 19)),
 Qo 21 (.fld (.t 20) 0),
 Qm 22 1,
 Qo 23 (.call 43 [(.t 21),(.t 22)])] [0,1,3,9,10,11,12])
 .skip))
 (.reg [Qm 24 3,
 Qo 25 (.ldl (.t 9) (some 8)),
 Qo 26 (.EU (.t 24) [(.t 25)])] [0,1,3,10,11,12]))))
 (.reg [Qo 27 (.bin .add (.t 12) (.c (.d (.int .i64 1)))),
 Qm 12 27] [0,1,3,10,11,12]))))
def Gu:C:=(.seq (.reg [Qm 10 2,
 Qo 11 (.len (.t 10)),
 Qo 12 (.mv (.c (.d (.int .i64 0))))] [0,1,3,10,11,12])
 (.block 0 (.loop Kk)))
noncomputable def C1:Cx:=⟨Tryz.prog,142,Tryz.f142,28,[300025],[],[]⟩
theorem HI:Good C1:=⟨Tryz.func142,by kernel_rfl⟩
theorem MT:C1.rs=[]:=rfl
theorem Mr (hl:args.length≤28) (h:Run C1 K [.code Gu] (Aq args) E σ):AQ Tryz.prog 142 args σ K:=
 AW (cx:=C1) (code:=Tryz.f142.body.getD .skip) HI (by kernel_rfl) Tryz.ntmps142 hl (AZ C1 _ (Av Gu) _ [] (by kernel_rfl)) h
def IY:C:=(.seq (.reg [Qo 2 (.box (.t 0) false)] [1,2])
 (.seq (.reg [Qo 3 (.ld (.t 1) none),
 Qo 4 (.nck (.t 3)),
 Qo 5 (.fld (.t 4) 0),
 Qo 6 (.fld (.t 2) 0),
 Qo 7 (.ldl (.t 6) none),
 Qo 8 (.call 43 [(.t 5),(.t 7)])] [1,2])
 (.seq (.reg [Qo 9 (.ld (.t 1) none),
 Qo 10 (.fld (.t 2) 1),
 Qo 11 (.ldl (.t 10) none),
 Qo 12 (.ld (.t 1) none),
 Qo 13 (.mkf 140 [(.t 12)] []),
 Qo 14 (.call 79 [(.t 9),(.t 11),(.t 13)])] [1,2])
 (.seq (.reg [Qo 15 (.ld (.t 1) none),
 Qo 16 (.nck (.t 15)),
 Qo 17 (.fld (.t 16) 0),
 Qo 18 (.call 43 [(.t 17),(.c (.d (.str [32,45,62,32])))])] [1,2])
 (.reg [Qo 19 (.ld (.t 1) none),
 Qo 20 (.fld (.t 2) 2),
 Qo 21 (.ldl (.t 20) (some 6)),
 Qo 22 (.call 139 [(.t 19),(.t 21)])] [])))))
noncomputable def DC:Cx:=⟨Tryz.prog,143,Tryz.f143,23,[300007,300011,300021],[],[]⟩
theorem I5:Good DC:=⟨Tryz.func143,by kernel_rfl⟩
theorem OK:DC.rs=[]:=rfl
theorem O8 (hl:args.length≤23) (h:Run DC K [.code IY] (Aq args) E σ):AQ Tryz.prog 143 args σ K:=
 AW (cx:=DC) (code:=Tryz.f143.body.getD .skip) I5 (by kernel_rfl) Tryz.ntmps143 hl (AZ DC _ (Av IY) _ [] (by kernel_rfl)) h
def Jz:C:=(.seq (.reg [Qo 13 (.bin .lss (.t 12) (.t 11))] [0,1,3,10,11,12,13])
 (.seq (.cond (.t 13) .skip
 (.exit 0))
 (.seq (.block 1 (.seq (.reg [Qm 14 12,
 Qo 15 (.ix (.t 10) (.t 12) 6),
 Qo 16 (.ld (.t 15) (some 6)),
 Qo 9 (.al [(.d (.int .i64 0)),(.d (.str [])),(.d (.int .i64 0)),.AX,.AX,.AX] false),
 Qm 8 14,
 ⟨none,.st (.t 9) (.t 16) 6,none⟩] [0,1,3,8,9,10,11,12])
 (.seq (.seq (.reg [Qm 17 8,
 Qo 18 (.bin .gtr (.t 17) (.c (.d (.int .i64 0))))] [0,1,3,9,10,11,12,18])
 (.cond (.t 18) (.reg [Qm 19 0,
 Qo 20 (.nck (.t 19)),
 Qo 21 (.fld (.t 20) 0),
 Qm 22 1,
 Qo 23 (.call 43 [(.t 21),(.t 22)])] [0,1,3,9,10,11,12])
 .skip))
 (.reg [Qm 24 3,
 Qo 25 (.ldl (.t 9) (some 6)),
 Qo 26 (.EU (.t 24) [(.t 25)])] [0,1,3,10,11,12]))))
 (.reg [Qo 27 (.bin .add (.t 12) (.c (.d (.int .i64 1)))),
 Qm 12 27] [0,1,3,10,11,12]))))
def Gc:C:=(.seq (.reg [Qm 10 2,
 Qo 11 (.len (.t 10)),
 Qo 12 (.mv (.c (.d (.int .i64 0))))] [0,1,3,10,11,12])
 (.block 0 (.loop Jz)))
noncomputable def CO:Cx:=⟨Tryz.prog,144,Tryz.f144,28,[300025],[],[]⟩
theorem Gf:Good CO:=⟨Tryz.func144,by kernel_rfl⟩
theorem Le:CO.rs=[]:=rfl
theorem ML (hl:args.length≤28) (h:Run CO K [.code Gc] (Aq args) E σ):AQ Tryz.prog 144 args σ K:=
 AW (cx:=CO) (code:=Tryz.f144.body.getD .skip) Gf (by kernel_rfl) Tryz.ntmps144 hl (AZ CO _ (Av Gc) _ [] (by kernel_rfl)) h
def Gt:C:=(.seq (.reg [Qm 6 1,
 Qo 7 (.len (.t 6)),
 Qo 8 (.bin .gtr (.t 7) (.c (.d (.int .i64 0))))] [0,1,2,8])
 (.cond (.t 8) (.seq (.reg [Qm 9 0,
 Qo 10 (.nck (.t 9)),
 Qo 11 (.fld (.t 10) 0),
 Qo 12 (.call 43 [(.t 11),(.c (.d (.str [40])))])] [0,1,2])
 (.seq (.reg [Qm 13 0,
 Qm 14 1,
 Qm 15 2,
 Qo 16 (.call 144 [(.t 13),(.c (.d (.str [44,32]))),(.t 14),(.t 15)])] [0])
 (.reg [Qm 17 0,
 Qo 18 (.nck (.t 17)),
 Qo 19 (.fld (.t 18) 0),
 Qo 20 (.call 43 [(.t 19),(.c (.d (.str [41])))])] [])))
 .skip))
noncomputable def C0:Cx:=⟨Tryz.prog,148,Tryz.f148,21,[],[],[]⟩
theorem Em:Good C0:=⟨Tryz.func148,by kernel_rfl⟩
theorem MS:C0.rs=[]:=rfl
theorem Mq (hl:args.length≤21) (h:Run C0 K [.code Gt] (Aq args) E σ):AQ Tryz.prog 148 args σ K:=
 AW (cx:=C0) (code:=Tryz.f148.body.getD .skip) Em (by kernel_rfl) Tryz.ntmps148 hl (AZ C0 _ (Av Gt) _ [] (by kernel_rfl)) h
attribute [go_sem] Vh QC KN QD NZ N4 QI J8 OJ J6 RG Wh J7 QF Ot QE QH ND JV QG QB Oz MT OK Le MS
end Go.Ab
