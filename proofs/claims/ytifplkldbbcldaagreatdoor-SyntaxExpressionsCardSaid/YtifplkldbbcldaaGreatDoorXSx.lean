/- Contracts of the library's functions, carried over to abstract states. What the cards of this seat share: the laid variables. Texts and expressions read out of memory. The compact codes of the functions of this seat, computed out of the translation. Conditions: none. -/
import Derived.Test.YtifplkldbbcldaaGreatDoorCards
import Derived.Test.YtifplkldbbcldaaGreatDoorTie
import Derived.LaidMore
import Derived.OpenShut
import Derived.Stop.Joined
import Derived.Stop.LaidErr
import Derived.Test.YtifplkldbbcldaaGreatDoorProg
import Derived.KernelRfl
import Derived.Test.YtifplkldbbcldaaGreatDoorXCdQp
set_option linter.unusedSimpArgs false
set_option linter.unusedVariables false
set_option maxRecDepth 4000
set_option maxHeartbeats 8000000
open Nat renaming lt_of_lt_of_le→Uq,le_trans→BD,add_zero→E6,le_refl→A9
open List renaming getElem?_map→BC,getElem?_eq_some_iff→Aa,length_map→AG,mem_cons_self→Ah,mem_cons_of_mem→Am
open Option renaming map_eq_some_iff→AK,isSome_iff_exists→XC,bind_some→BY
open Option.some renaming injEq→AR,inj→Iw
open Bool renaming and_eq_true→AN
namespace Go.Ab
open Go.RowKit Go.Sort Go.Proofs
theorem Rel.below {base:Nat} {g:Gh} {Pr:Nat→Prop} {σ:AM} {w0 w w':World} (h:Rel base g Pr σ w0 w) (hb:Below w.heap.size w w'):Rel base g Pr σ w0 w'∧KP Pr w w':=
 ⟨h.grow hb.size (fun b hlt _=>hb.block b hlt) ⟨hb.os,hb.tape,hb.output,hb.size,fun b hlt=>hb.block b (Uq hlt h.bs)⟩ (fun b hp=>⟨Uq (h.pr b hp).1 hb.size,.inl hp⟩),hb.size,fun b hp=>hb.block b (h.pr b hp).1⟩
def bys (s:List UInt8):ByteArray:=⟨s.toArray⟩
theorem fO (l:List (List UInt8)):(l.map bys).map (·.data.toList)=l:=by
 rw [List.map_map]
 conv=>rhs;rw [← List.map_id l]
 rfl
theorem mR (l:List (List UInt8)) (sep:List UInt8) (σ:AM) (hN:l.length≤100000) (hlen:(Lib.join l sep).length≤100000000000000):
 AP Tryz.prog 44 [.d (.sl (l.map B0)),.d (.str sep)] σ (fun v σ'=>v= .d (.str (Lib.join l sep))∧σ'=σ):=by
 intro base g Pr w0 w vs hr hv
 obtain ⟨v,u,rfl,h1,h2⟩:=hv.two
 have hlen':(Lib.join l sep).length≤maxLen:=BD hlen (by decide+kernel)
 cases h2 with|d h2=>cases h2 with|str _=>
 have fin:∀w',Below w.heap.size w w'→∃v av g' σ',(Ending.returned (.string ⟨(Lib.join l sep).toArray⟩))=Ending.returned v∧VR g' av v∧Rel base g' Pr σ' w0 w'∧g.le g'∧KP Pr w w'∧av= .d (.str (Lib.join l sep))∧σ'=σ:=fun w' hb=>by
  obtain ⟨k1,k2⟩:=hr.below hb
  exact ⟨_,_,g,σ,rfl,.d (.str hlen'),k1,Gh.le_refl g,k2,rfl,rfl⟩
 cases l with
 |nil=>
  cases h1 with|d h1=>
  obtain ⟨a,cap,rfl,_⟩:=h1.K5
  refine Calls.mono (show Calls Tryz.prog 44 #[.slice a 0 cap,.string ⟨sep.toArray⟩] w _ from Any.strings_Join_none Tryz.nO Tryz.Nz a cap ⟨sep.toArray⟩ w) ?_
  rintro e w' ⟨rfl,rfl⟩
  exact fin _ (Below.refl _ _)
 |cons x l=>
  cases h1 with|d h1=>
  generalize hrows:List.map B0 (x::l)=rows at h1
  cases h1 with
  |nil=>simp at hrows
  |@sl rows b off cap size f hc hm hs hi hrd=>
   subst hrows
   have hs1:size=1:=by
    have:=hs (B0 x) (by simp)
    simpa [B0] using this.symm
   subst hs1
   have hcell:∀(j:Nat) (y:ByteArray),((x::l).map bys)[j]?=some y→w.cell? ⟨b,off+j,none⟩=some (.string y):=by
    intro j y hy
    rw [BC,AK] at hy
    obtain ⟨s,hsj,rfl⟩:=hy
    have hjl:j < ((x::l).map B0).length:=by
     have:=(Aa.1 hsj).1
     simpa using this
    have h3:=hi j 0 hjl (by omega)
    have h4:=hrd j (B0 s) 0 (.str s) (by rw [BC,hsj];rfl) rfl
    generalize f j 0=fv at h3 h4
    cases h4
    have:=hr.im _ _ _ h3
    rw [Nat.mul_one,E6] at this
    exact this
   have hbk:b < w.heap.size:=by
    have h3:=hi 0 0 (by simp) (by omega)
    exact hr.SX h3
   have hc':((x::l).map bys).length≤cap:=by simpa using hc
   have hcon:=Any.strings_Join Tryz.nO Tryz.Nz b off cap ((x::l).map bys) ⟨sep.toArray⟩ w hcell hbk (by simp at hN ⊢;omega) hc' (by rw [fO];simp only [List.toList_toArray];omega)
   rw [fO] at hcon
   rw [AG] at hcon ⊢
   refine Calls.mono hcon ?_
   rintro e w' ⟨rfl,hb⟩
   exact fin _ hb
def T7:Array Value:=(Lib.pow10Tab.map fun z=>Value.int .u64 z).toArray
def RT:Nat:=1
def YX:Nat:=4
theorem WQ:Tryz.prog.globalNamed "internal/strconv.uint64pow10"=some RT:=by kernel_rfl
theorem L1 (n:Int) (σ:AM) (ht:σ.gt RT=some T7):AP Tryz.prog 146 [.d (.int .i64 n),.d (.int .i64 10)] σ (fun v σ'=>v= .d (.str (Lib.itoa n))∧σ'=σ):=by
 refine AP.yL (fun base g Pr w0 w vs hr hv=>?_)
 obtain ⟨v,u,rfl,hvv,hu⟩:=hv.two
 obtain ⟨rfl,h⟩:=hvv.Xd
 obtain ⟨rfl,_⟩:=hu.Xd
 have h0: -9223372036854775808≤n:=h.1
 have h1:n≤9223372036854775807:=h.2
 exact ⟨_,.str (by have:=Lib.itoa_length_le n h0 h1;have:(21:Nat)≤maxLen:=by decide+kernel
                   omega),Any.strconv_FormatInt_10 Tryz.tR n h0 h1 w (hr.tab WQ ht)⟩
theorem VK {σ:AM} {i:Nat} {s:AV} {ty:TypeId} (hb:σ.blk i=some [.gp i 0,s]) (ht:σ.bt i=some (2,ty)):AP Tryz.prog 85 [.gp i 0] σ (fun v σ'=>v= .tup []∧σ'=σ):=
 j6 (fun b w h=>Any.Builder_copyCheck_used Tryz.nP Tryz.Qg b w h) hb ht
theorem VRs.three {g:Gh} {c d e:AV} {vs:List Value} (h:VRs g [c,d,e] vs):∃v u x,vs=[v,u,x]∧VR g c v∧VR g d u∧VR g e x:=by
 cases h with|cons h hs=>obtain ⟨u,x,rfl,hu,hx⟩:=hs.two;exact ⟨_,_,_,rfl,h,hu,hx⟩
def hG (s:Str):Prop:=s=[]∨(s≠[]∧(∀x∈s,CP Em x=true)∧(FI s 0).isSome=true∧s.length≤20000)
theorem uP:∀(s:Str) (acc:Nat) (v:Int),(∀x∈s,CP Em x=true)→FI s (acc:Int)=some v→acc≤1000000→∃m:Nat,v=(m:Int)∧Lib.parseUintM (2 ^ 64 - 1) acc s= .ok m∧m≤1000000
 |[],acc,v,_,h,ha=>by
  simp only [FI,AR] at h
  exact ⟨acc,h.symm,rfl,ha⟩
 |b::r,acc,v,hd,h,ha=>by
  have hb:=hd b (Ah ..)
  simp only [CP,Em,AN,decide_eq_true_eq] at hb
  have hw:IntKind.u8.wrap ((b.toNat:Int) - 48)=((b.toNat - 48:Nat):Int):=by
   have h1:IntKind.u8.wrap ((b.toNat:Int) - 48)=((b.toNat:Int) - 48) % 256:=rfl
   rw [h1];omega
  rw [FI,hw] at h
  split at h
  · cases h
  · rename_i hle
    have e1:(acc:Int) * 10+((b.toNat - 48:Nat):Int)=((acc * 10+(b.toNat - 48):Nat):Int):=by omega
    rw [e1] at h hle
    obtain ⟨m,h1,h2,h3⟩:=uP r _ v (fun x hx=>hd x (Am _ hx)) h (by omega)
    refine ⟨m,h1,?_,h3⟩
    rw [Lib.parseUintM,if_pos (by omega),if_neg (by omega),if_neg (by omega)]
    exact h2
theorem oA {s:Str} (hn:s≠[]) (hd:∀x∈s,CP Em x=true) (hv:(FI s 0).isSome=true):Lib.parseIntB 64 s= .ok (RR s)∧0≤RR s∧RR s≤1000000:=by
 obtain ⟨v,hv⟩:=XC.1 hv
 obtain ⟨m,h1,h2,h3⟩:=uP s 0 v hd hv (by omega)
 have e:RR s=(m:Int):=by rw [RR,hv,← h1];rfl
 rw [e]
 refine ⟨?_,by omega,by omega⟩
 match s,hn with
 |c::r,_=>
  have hb:=hd c (Ah ..)
  simp only [CP,Em,AN,decide_eq_true_eq] at hb
  have hc:¬(c.toNat=43∨c.toNat=45):=by omega
  have h45:¬c.toNat=45:=by omega
  have h43:¬c.toNat=43:=by omega
  simp only [Lib.parseIntB,h43,or_self,if_false,Lib.parseUintB,List.cons_ne_nil,if_false,h2,h45,not_false_eq_true,true_and,false_and]
  rw [if_neg (by omega)]
theorem uN:RR []=0:=rfl
theorem n9 {s:Str} (h:hG s):0≤RR s∧RR s≤1000000:=by
 rcases h with rfl|⟨h1,h2,h3⟩
 · rw [uN];omega
 · exact (oA h1 h2 h3.1).2
theorem fH (s:Str) (σ:AM) (hs:hG s) (he:∃te pe,σ.gt YX=some #[.iface te pe]):
 AP Tryz.prog 215 [.d (.str s),.d (.int .i64 10),.d (.int .i64 64)] σ (fun v σ'=>v= .tup [.d (.int .i64 (RR s)),.undef]∧σ'=σ):=by
 intro base g Pr w0 w vs hr hv
 obtain ⟨v,u,x,rfl,h1,h2,h3⟩:=hv.three
 cases h1 with|d h1=>cases h1 with|str hsl=>
 obtain ⟨rfl,_⟩:=h2.Xd
 obtain ⟨rfl,_⟩:=h3.Xd
 have hnum:IntKind.i64.has (RR s):=by
  have:=n9 hs
  exact ⟨by show (-9223372036854775808:Int)≤_;omega,by show _≤(9223372036854775807:Int);omega⟩
 have fin:∀(y:Value) (w':World),Below w.heap.size w w'→∃v av g' σ',(Ending.returned (.tuple #[.int .i64 (RR s),y]))=Ending.returned v∧VR g' av v∧Rel base g' Pr σ' w0 w'∧g.le g'∧KP Pr w w'∧av= .tup [.d (.int .i64 (RR s)),.undef]∧σ'=σ:=fun y w' hb=>by
  obtain ⟨k1,k2⟩:=hr.below hb
  refine ⟨_,_,g,σ,rfl,VR.tup (vs:=[.int .i64 (RR s),y]) rfl (fun i c v hc hv=>?_),k1,Gh.le_refl g,k2,rfl,rfl⟩
  match i,hc,hv with
  |0,hc,hv=>simp at hc hv;subst hc hv;exact .d (.int hnum)
  |1,hc,hv=>simp at hc hv;subst hc;exact .undef
  |i+2,hc,hv=>simp at hc
 rcases hs with rfl|⟨g1,g2,g3⟩
 · obtain ⟨te,pe,hg⟩:=he
   obtain ⟨hlt,ty,fr,hc⟩:=hr.st.1 YX _ hg
   have hcell:w.cell? ⟨YX,0,none⟩=some (.iface te pe):=by
    unfold World.cell?
    rw [hr.bel.block YX hlt,hc];rfl
   refine Calls.mono (Any.strconv_ParseInt_10_at64_syntax Tryz.gR ⟨#[]⟩ (by decide) rfl (.iface te pe) w hcell (.inr ⟨te,pe,rfl⟩)) ?_
   rintro e w' ⟨N,rfl,_,_,hb⟩
   exact fin _ w' hb
 · refine Calls.mono (Any.strconv_ParseInt_10_at64_ok Tryz.gR ⟨s.toArray⟩ (by rw [UT];have:=g3.2;omega) (RR s) (by simpa using (oA g1 g2 g3.1).1) w) ?_
   rintro e w' ⟨rfl,hw⟩
   refine fin _ w' ?_
   rcases hw with rfl|⟨t,rfl⟩
   · exact Below.refl _ _
   · exact Lib.bytesWorld_below _ _ _
end Go.Ab
namespace Go.Ab
open Go.Proofs
def gtT (te:TypeId) (pe:Value):Nat→Option (Array Value):=fun b=>if b=RT then some T7 else if b=YX then some #[.iface te pe] else none
theorem xD (te:TypeId) (pe:Value):(Ly (gtT te pe)).gt RT=some T7:=by simp [Ly,gtT]
theorem xC (te:TypeId) (pe:Value):∃te' pe',(Ly (gtT te pe)).gt YX=some #[.iface te' pe']:=⟨te,pe,by simp [Ly,gtT,RT,YX]⟩
end Go.Ab
namespace Go.Proofs.YtifplkldbbcldaaGreatDoor
open Go.ChangeShapes Go.WideShapes Go.ChangeAt Go.RowKit
theorem Tryz.own:ownKnob Tryz.prog.godebug=none:=by kernel_rfl
theorem Tryz.laidOut:laidOutB Tryz.prog=true:=by kernel_rfl
def gQ:List (String×DataW Unit):=[("math/bits.deBruijn32tab",Rows.laid_math_bits_deBruijn32tab),("math/bits.deBruijn64tab",Rows.laid_math_bits_deBruijn64tab),("internal/strconv.uint64pow10",Rows.laid_internal_strconv_uint64pow10),("strconv.ErrRange",Rows.laid_strconv_ErrRange),("strconv.ErrSyntax",Rows.laid_strconv_ErrSyntax)]
theorem u6:(Tryz.prog.globals[Go.Ab.RT]?).map (·.type)=some 193:=by kernel_rfl
theorem bS:Tryz.prog.globalNamed "strconv.ErrSyntax"=some Go.Ab.YX:=by kernel_rfl
theorem tA:(Tryz.prog.globals[Go.Ab.YX]?).map (·.type)=some 90:=by kernel_rfl
theorem fW: "*"++ "errors.errorString"= "*errors.errorString":=by decide
theorem w8 (u:TypeId) (h:Tryz.prog.typeName? 3 u=some "*errors.errorString"):u=218:=
 typeName_ptr_named (nm:= "errors.errorString") (by rw [fW];kernel_rfl) (by kernel_rfl) (by decide) u (by rw [fW];exact h)
theorem sZ (os:Os) (args:Array Value):laidMetH Tryz.prog gQ ((World.doorLaid Tryz.prog 400 os).forCall (fun _ _=>0) ⟨#[],args,[]⟩).memory:=
 laidMetH_of_parts3 (fuel:=8) (laidMet_of_run' 8 (by kernel_rfl) (by kernel_rfl)) (by kernel_rfl) (by kernel_rfl)
theorem cX {W:World} {n:String} {g:Nat} {cs:Array Value} (hg:Tryz.prog.globalNamed n=some g) (h:W.var? Tryz.prog n=some cs):∃ty fr,W.heap[g]?=some (.cells cs ty fr):=by
 unfold World.var? at h
 rw [hg,BY] at h
 cases hh:W.heap[g]? with
 |none=>rw [hh] at h;cases h
 |some o=>
  rw [hh] at h
  cases o<;>try (cases h;done)
  rename_i vs ty fr
  have:vs=cs:=by simpa using h
  subst this
  exact ⟨ty,fr,rfl⟩
theorem xE {W:World} (h:laidMetH Tryz.prog gQ W):∃te pe,∀b vs,Go.Ab.gtT te pe b=some vs→∃ty fr,W.heap[b]?=some (.cells vs ty fr):=by
 rw [MakeChecks.laidMetH_plain _ _ _ (by kernel_rfl)] at h
 obtain ⟨a,s,he,_⟩:=laid_sentinel (g:=Go.Ab.YX) h.tail.tail.tail.tail bS tA Tryz.underlying90 w8 Tryz.underlying218 Tryz.underlying220 rfl rfl Tryz.underlying9 (by kernel_rfl) (by kernel_rfl)
 refine ⟨218,.pointer (some a),fun b vs hb=>?_⟩
 obtain ⟨ps,⟨g0,t0,cs0,f0,p0,q0,hg0,ht0,hv0,hd0,⟨g1,t1,cs1,f1,p1,q1,hg1,ht1,hv1,hd1,⟨g2,t2,cs2,f2,p2,q2,hg2,ht2,hv2,hd2,_,_⟩,_⟩,_⟩,_,_⟩:=h
 obtain rfl:=Iw (Go.Ab.WQ.symm.trans hg2)
 obtain rfl:=Iw (u6.symm.trans ht2)
 have hc:=Lib.cells_of_tab (k:= .u64) (zs:=Lib.pow10Tab) Tryz.underlying193 Tryz.underlying183 (by kernel_rfl) (by kernel_rfl) (show DataW.trod _ _ _ _ _ _ _ _ _=some (Lib.tabData .u64 Lib.pow10Tab,p2) from hd2)
 have hcs:cs2=Go.Ab.T7:=by
  apply Array.toList_inj.1
  rw [hc];rfl
 unfold Go.Ab.gtT at hb
 split at hb
 · rename_i e
   subst e
   cases hb
   rw [hcs] at hv2
   exact cX Go.Ab.WQ hv2
 · split at hb
   · rename_i e
     subst e
     cases hb
     exact cX bS he
   · cases hb
end Go.Proofs.YtifplkldbbcldaaGreatDoor
namespace Go.Ab
open Go.Proofs
theorem wR {av:List AV} (h:Xk Tryz.prog [44] av):∃e:Ex,av=[exA e]:=by
 cases h with
 |cons h1 h=>
  cases h
  obtain ⟨e,rfl⟩:=AA1 _ _ (A9 _) h1
  exact ⟨e,by rw [W7 Tryz.underlying44];rfl⟩
end Go.Ab
namespace Go.Ab
open Go.Proofs
variable {args:List AV} {σ:AM} {K:AV→AM→Prop}
def UU:C:=(.seq (.reg [Qo 17 (.bin .lss (.t 16) (.t 15))] [1,3,14,15,16,17])
 (.seq (.cond (.t 17) .skip
 (.exit 0))
 (.seq (.block 1 (.seq (.reg [Qo 18 (.ix (.t 14) (.t 16) 3),
 Qo 19 (.ld (.t 18) (some 3)),
 Qo 5 (.al [(.d (.str [])),.AY,.AY] false),
 ⟨none,.st (.t 5) (.t 19) 3,none⟩] [1,3,5,14,15,16])
 (.reg [Qm 20 3,
 Qo 21 (.ldl (.t 5) (some 3)),
 Qo 22 (.call 42 [(.t 20),(.t 21)])] [1,3,14,15,16])))
 (.reg [Qo 23 (.bin .add (.t 16) (.c (.d (.int .i64 1)))),
 Qm 16 23] [1,3,14,15,16]))))
def UW:C:=(.seq (.reg [Qo 28 (.bin .lss (.t 27) (.t 26))] [3,25,26,27,28])
 (.seq (.cond (.t 28) .skip
 (.exit 2))
 (.seq (.block 3 (.seq (.reg [Qo 29 (.ix (.t 25) (.t 27) 8),
 Qo 30 (.ld (.t 29) (some 8)),
 Qo 7 (.al [(.d (.str [])),.AY,(.d (.int .i64 0)),(.d (.str [])),(.d (.int .i64 0)),.AY,.AY,.AY] false),
 ⟨none,.st (.t 7) (.t 30) 8,none⟩] [3,7,25,26,27])
 (.seq (.reg [Qm 31 3,
 Qo 32 (.nck (.t 31)),
 Qo 33 (.fld (.t 32) 0),
 Qo 34 (.fld (.t 7) 0),
 Qo 35 (.ldl (.t 34) none),
 Qo 36 (.bin .add (.c (.d (.str [102,117,110,32]))) (.t 35)),
 Qo 37 (.bin .add (.t 36) (.c (.d (.str [40])))),
 Qo 38 (.fld (.t 7) 1),
 Qo 39 (.ldl (.t 38) none),
 Qo 40 (.call 44 [(.t 39),(.c (.d (.str [44,32])))]),
 Qo 41 (.bin .add (.t 37) (.t 40)),
 Qo 42 (.bin .add (.t 41) (.c (.d (.str [41,32,61,32])))),
 Qo 43 (.call 43 [(.t 33),(.t 42)])] [3,7,25,26,27])
 (.seq (.reg [Qm 44 3,
 Qo 45 (.fld (.t 7) 2),
 Qo 46 (.ldl (.t 45) (some 6)),
 Qo 47 (.call 45 [(.t 44),(.t 46),(.c (.d (.int .i64 0)))])] [3,25,26,27])
 (.reg [Qm 48 3,
 Qo 49 (.nck (.t 48)),
 Qo 50 (.fld (.t 49) 0),
 Qo 51 (.call 43 [(.t 50),(.c (.d (.str [59,10])))])] [3,25,26,27])))))
 (.reg [Qo 52 (.bin .add (.t 27) (.c (.d (.int .i64 1)))),
 Qm 27 52] [3,25,26,27]))))
def Qj:C:=(.seq (.reg [Qo 1 (.box (.t 0) false),
 Qo 2 (.mv (.c (.d (.str []))))] [1])
 (.seq (.seq (.reg [Qo 8 (.ldl (.t 1) (some 2)),
 Qo 9 (.call 19 [(.t 8)]),
 Qo 10 (.un .not (.t 9))] [1,10])
 (.cond (.t 10) (.seq (.reg [Qo 2 (.mv (.c (.d (.str []))))] [2])
 .ret)
 .skip))
 (.seq (.reg [Qo 11 (.bld [.Et,.AY] []),
 Qo 12 (.ex (.Zo 87 2) [(.t 11)]),
 Qm 3 12] [1,3])
 (.seq (.seq (.reg [Qo 13 (.fld (.t 1) 0),
 Qo 14 (.ldl (.t 13) none),
 Qo 15 (.len (.t 14)),
 Qo 16 (.mv (.c (.d (.int .i64 0))))] [1,3,14,15,16])
 (.block 0 (.loop UU)))
 (.seq (.seq (.reg [Qo 24 (.fld (.t 1) 1),
 Qo 25 (.ldl (.t 24) none),
 Qo 26 (.len (.t 25)),
 Qo 27 (.mv (.c (.d (.int .i64 0))))] [3,25,26,27])
 (.block 2 (.loop UW)))
 (.seq (.reg [Qm 53 3,
 Qo 54 (.nck (.t 53)),
 Qo 55 (.fld (.t 54) 0),
 Qo 56 (.call 46 [(.t 55)]),
 Qm 2 56] [2])
 .ret))))))
noncomputable def Ga:Cx:=⟨Tryz.prog,17,Tryz.f17,57,[12,100012,300008,300014,300021,300025,300035,300039,300046],[],[.t 2]⟩
theorem Lh:Good Ga:=⟨Tryz.func17,by kernel_rfl⟩
theorem WV:Ga.rs=[.t 2]:=rfl
theorem XJ (hl:args.length≤57) (h:Run Ga K [.code Qj] (At args) E σ):AP Tryz.prog 17 args σ K:=
 AX (cx:=Ga) (code:=Tryz.f17.body.getD .skip) Lh (by kernel_rfl) Tryz.ntmps17 hl (AZ Ga _ (Ax Qj) _ [] (by kernel_rfl)) h
def ME:C:=(.seq (.reg [Qo 1 (.box (.t 0) false),
 Qo 2 (.mv (.c (.d (.str []))))] [1])
 (.seq (.seq (.reg [Qo 4 (.ldl (.t 1) (some 6)),
 Qo 5 (.bld [(.d (.str [])),.AY,(.d (.int .i64 0)),(.d (.str [])),(.d (.int .i64 0)),.AY,.AY,.AY] [(0,1,(.c (.d (.str [102])))),(2,6,(.t 4))]),
 Qo 6 (.bsl 8 1 [(.d (.str [])),.AY,(.d (.int .i64 0)),(.d (.str [])),(.d (.int .i64 0)),.AY,.AY,.AY] [(0,8,(.t 5))]),
 Qo 7 (.bld [.AY,.AY] [(1,1,(.t 6))]),
 Qo 8 (.call 19 [(.t 7)]),
 Qo 9 (.un .not (.t 8))] [1,9])
 (.cond (.t 9) (.seq (.reg [Qo 2 (.mv (.c (.d (.str []))))] [2])
 .ret)
 .skip))
 (.seq (.reg [Qo 10 (.bld [.Et,.AY] []),
 Qo 11 (.ex (.Zo 87 2) [(.t 10)]),
 Qm 3 11] [1,3])
 (.seq (.reg [Qm 12 3,
 Qo 13 (.ldl (.t 1) (some 6)),
 Qo 14 (.call 45 [(.t 12),(.t 13),(.c (.d (.int .i64 0)))])] [3])
 (.seq (.reg [Qm 15 3,
 Qo 16 (.nck (.t 15)),
 Qo 17 (.fld (.t 16) 0),
 Qo 18 (.call 46 [(.t 17)]),
 Qm 2 18] [2])
 .ret)))))
noncomputable def E9:Cx:=⟨Tryz.prog,23,Tryz.f23,19,[11,100011,300004,300013],[],[.t 2]⟩
theorem Hi:Good E9:=⟨Tryz.func23,by kernel_rfl⟩
theorem Sa:E9.rs=[.t 2]:=rfl
theorem TX (hl:args.length≤19) (h:Run E9 K [.code ME] (At args) E σ):AP Tryz.prog 23 args σ K:=
 AX (cx:=E9) (code:=Tryz.f23.body.getD .skip) Hi (by kernel_rfl) Tryz.ntmps23 hl (AZ E9 _ (Ax ME) _ [] (by kernel_rfl)) h
def Qi:C:=(.seq (.reg [Qo 1 (.box (.t 0) false),
 Qo 2 (.mv (.c (.d (.str []))))] [1])
 (.seq (.seq (.reg [Qo 3 (.ldl (.t 1) (some 6)),
 Qo 4 (.bld [(.d (.str [])),.AY,(.d (.int .i64 0)),(.d (.str [])),(.d (.int .i64 0)),.AY,.AY,.AY] [(0,1,(.c (.d (.str [102])))),(2,6,(.t 3))]),
 Qo 5 (.bsl 8 1 [(.d (.str [])),.AY,(.d (.int .i64 0)),(.d (.str [])),(.d (.int .i64 0)),.AY,.AY,.AY] [(0,8,(.t 4))]),
 Qo 6 (.bld [.AY,.AY] [(1,1,(.t 5))]),
 Qo 7 (.call 20 [(.t 6)]),
 Qo 8 (.un .not (.t 7))] [1,8])
 (.cond (.t 8) (.seq (.reg [Qo 2 (.mv (.c (.d (.str []))))] [2])
 .ret)
 .skip))
 (.seq (.reg [Qo 9 (.ldl (.t 1) (some 6)),
 Qo 10 (.call 49 [(.t 9)]),
 Qm 2 10] [2])
 .ret)))
noncomputable def G9:Cx:=⟨Tryz.prog,24,Tryz.f24,11,[300003,300009],[],[.t 2]⟩
theorem Lg:Good G9:=⟨Tryz.func24,by kernel_rfl⟩
theorem WU:G9.rs=[.t 2]:=rfl
theorem XI (hl:args.length≤11) (h:Run G9 K [.code Qi] (At args) E σ):AP Tryz.prog 24 args σ K:=
 AX (cx:=G9) (code:=Tryz.f24.body.getD .skip) Lg (by kernel_rfl) Tryz.ntmps24 hl (AZ G9 _ (Ax Qi) _ [] (by kernel_rfl)) h
def Jo:C:=(.seq (.reg [Qo 2 (.box (.t 0) true),
 Qo 3 (.box (.t 1) false)] [2,3])
 (.seq (.reg [Qo 4 (.ld (.t 2) none),
 Qo 5 (.nck (.t 4)),
 Qo 6 (.fld (.t 5) 0),
 Qo 7 (.fld (.t 3) 0),
 Qo 8 (.ldl (.t 7) none),
 Qo 9 (.bin .add (.c (.d (.str [100,97,116,97,32]))) (.t 8)),
 Qo 10 (.call 43 [(.t 6),(.t 9)])] [2,3])
 (.seq (.reg [Qo 11 (.ld (.t 2) none),
 Qo 12 (.fld (.t 3) 1),
 Qo 13 (.ldl (.t 12) none),
 Qo 14 (.ld (.t 2) none),
 Qo 15 (.mkf 80 [(.t 14)] []),
 Qo 16 (.call 79 [(.t 11),(.t 13),(.t 15)])] [2,3])
 (.seq (.reg [Qo 17 (.ld (.t 2) none),
 Qo 18 (.nck (.t 17)),
 Qo 19 (.fld (.t 18) 0),
 Qo 20 (.call 43 [(.t 19),(.c (.d (.str [32,61,32])))])] [2,3])
 (.seq (.reg [Qo 21 (.ld (.t 2) none),
 Qo 22 (.fld (.t 3) 2),
 Qo 23 (.ldl (.t 22) none),
 Qo 24 (.mkf 82 [] [(.t 2)]),
 Qo 25 (.call 81 [(.t 21),(.c (.d (.str [32,124,32]))),(.t 23),(.t 24)])] [2])
 (.reg [Qo 26 (.ld (.t 2) none),
 Qo 27 (.nck (.t 26)),
 Qo 28 (.fld (.t 27) 0),
 Qo 29 (.call 43 [(.t 28),(.c (.d (.str [59,10])))])] []))))))
noncomputable def Dg:Cx:=⟨Tryz.prog,42,Tryz.f42,30,[2,300008,300013,300023],[],[]⟩
theorem Jy:Good Dg:=⟨Tryz.func42,by kernel_rfl⟩
theorem Q3:Dg.rs=[]:=rfl
theorem RJ (hl:args.length≤30) (h:Run Dg K [.code Jo] (At args) E σ):AP Tryz.prog 42 args σ K:=
 AX (cx:=Dg) (code:=Tryz.f42.body.getD .skip) Jy (by kernel_rfl) Tryz.ntmps42 hl (AZ Dg _ (Ax Jo) _ [] (by kernel_rfl)) h
def GB:C:=(.seq (.reg [Qo 4 (.mv (.c (.d (.int .i64 0)))),
 Qo 5 (.mv (.c .undef))] [0,1])
 (.seq (.reg [Qm 6 0,
 Qo 7 (.call 85 [(.t 6)])] [0,1])
 (.seq (.reg [Qm 8 0,
 Qm 9 0,
 Qo 10 (.nck (.t 9)),
 Qo 11 (.fld (.t 10) 1),
 Qo 12 (.ld (.t 11) none),
 Qm 13 1,
 Qo 14 (.ex (.apps 5) [(.t 12),(.t 13)]),
 Qo 15 (.nck (.t 8)),
 Qo 16 (.fld (.t 15) 1),
 ⟨none,.st (.t 16) (.t 14) 1,none⟩] [1])
 (.seq (.reg [Qm 17 1,
 Qo 18 (.J3 (.t 17)),
 Qm 4 18,
 Qo 5 (.mv (.c .undef))] [4,5])
 .ret))))
noncomputable def Bu:Cx:=⟨Tryz.prog,43,Tryz.f43,19,[],[],[.t 4,.t 5]⟩
theorem GF:Good Bu:=⟨Tryz.func43,by kernel_rfl⟩
theorem K4:Bu.rs=[.t 4,.t 5]:=rfl
theorem LP (hl:args.length≤19) (h:Run Bu K [.code GB] (At args) E σ):AP Tryz.prog 43 args σ K:=
 AX (cx:=Bu) (code:=Tryz.f43.body.getD .skip) GF (by kernel_rfl) Tryz.ntmps43 hl (AZ Bu _ (Ax GB) _ [] (by kernel_rfl)) h
def Jp:C:=(.seq (.reg [Qo 4 (.box (.t 1) false)] [0,2,4])
 (.seq (.seq (.reg [Qo 9 (.ldl (.t 4) (some 6)),
 Qo 10 (.call 87 [(.t 9)]),
 Qm 11 2,
 Qo 12 (.bin .lss (.t 10) (.t 11))] [0,4,12])
 (.cond (.t 12) (.seq (.reg [Qm 13 0,
 Qo 14 (.ldl (.t 4) (some 6)),
 Qo 15 (.call 88 [(.t 13),(.t 14)])] [])
 .ret)
 .skip))
 (.seq (.reg [Qo 16 (.fld (.t 4) 0),
 Qo 17 (.ldl (.t 16) none)] [0,4,17])
 (.block 0 (.seq (.seq (.reg [Qo 22 (.bin .eql (.t 17) (.c (.d (.int .i64 7)))),
 Qm 21 22] [0,4,17,21])
 (.cond (.t 21) .skip
 (.seq (.reg [Qo 23 (.bin .eql (.t 17) (.c (.d (.int .i64 8)))),
 Qm 21 23] [0,4,17,21])
 (.cond (.t 21) .skip
 (.seq (.reg [Qo 24 (.bin .eql (.t 17) (.c (.d (.int .i64 9)))),
 Qm 21 24] [0,4,17,21])
 (.cond (.t 21) .skip
 (.seq (.reg [Qo 25 (.bin .eql (.t 17) (.c (.d (.int .i64 10)))),
 Qm 21 25] [0,4,17,21])
 (.cond (.t 21) .skip
 (.seq (.reg [Qo 26 (.bin .eql (.t 17) (.c (.d (.int .i64 11)))),
 Qm 21 26] [0,4,17,21])
 (.cond (.t 21) .skip
 (.reg [Qo 27 (.bin .eql (.t 17) (.c (.d (.int .i64 17)))),
 Qm 21 27] [0,4,17,21])))))))))))
 (.cond (.t 21) (.reg [Qm 28 0,
 Qo 29 (.ldl (.t 4) (some 6)),
 Qo 30 (.call 89 [(.t 28),(.t 29)])] [])
 (.seq (.reg [Qo 32 (.bin .eql (.t 17) (.c (.d (.int .i64 13)))),
 Qm 31 32] [0,4,17,31])
 (.cond (.t 31) (.seq (.reg [Qo 34 (.fld (.t 4) 2),
 Qo 35 (.ldl (.t 34) none),
 Qo 36 (.call 90 [(.t 35)]),
 Qm 33 36,
 Qo 37 (.ext (.t 33) 0),
 Qo 38 (.ext (.t 33) 1),
 Qm 6 37,
 Qm 7 38] [0,4,6,7])
 (.seq (.reg [Qm 39 0,
 Qo 40 (.fld (.t 4) 4),
 Qo 41 (.ldl (.t 40) none),
 Qo 42 (.ix (.t 41) (.c (.d (.int .i64 0))) 6),
 Qo 43 (.ld (.t 42) (some 6)),
 Qm 44 6,
 Qo 45 (.call 45 [(.t 39),(.t 43),(.t 44)])] [0,4,7])
 (.seq (.reg [Qm 46 0,
 Qo 47 (.nck (.t 46)),
 Qo 48 (.fld (.t 47) 0),
 Qo 49 (.fld (.t 4) 2),
 Qo 50 (.ldl (.t 49) none),
 Qo 51 (.call 91 [(.t 50)]),
 Qo 52 (.bin .add (.c (.d (.str [32]))) (.t 51)),
 Qo 53 (.bin .add (.t 52) (.c (.d (.str [32])))),
 Qo 54 (.call 43 [(.t 48),(.t 53)])] [0,4,7])
 (.reg [Qm 55 0,
 Qo 56 (.fld (.t 4) 4),
 Qo 57 (.ldl (.t 56) none),
 Qo 58 (.ix (.t 57) (.c (.d (.int .i64 1))) 6),
 Qo 59 (.ld (.t 58) (some 6)),
 Qm 60 7,
 Qo 61 (.call 45 [(.t 55),(.t 59),(.t 60)])] []))))
 (.seq (.reg [Qo 63 (.bin .eql (.t 17) (.c (.d (.int .i64 12)))),
 Qm 62 63] [0,4,62])
 (.cond (.t 62) (.seq (.seq (.reg [Qo 64 (.fld (.t 4) 4),
 Qo 65 (.ldl (.t 64) none),
 Qo 66 (.ix (.t 65) (.c (.d (.int .i64 0))) 6),
 Qo 67 (.ld (.t 66) (some 6)),
 Qo 8 (.al [(.d (.int .i64 0)),(.d (.str [])),(.d (.int .i64 0)),.AY,.AY,.AY] false),
 ⟨none,.st (.t 8) (.t 67) 6,none⟩] [0,4,8])
 (.seq (.reg [Qo 68 (.fld (.t 8) 0),
 Qo 69 (.ldl (.t 68) none),
 Qo 70 (.bin .eql (.t 69) (.c (.d (.int .i64 6)))),
 Qm 71 70,
 ⟨some 72,.fld (.t 8) 4,some (71,true)⟩,
 ⟨some 73,.ldl (.t 72) none,some (71,true)⟩,
 ⟨some 74,.len (.t 73),some (71,true)⟩,
 ⟨some 75,.bin .eql (.t 74) (.c (.d (.int .i64 0))),some (71,true)⟩,
 Qo 76 (.pick (.t 71) (.t 75) (.c (.d (.bool false))))] [0,4,8,76])
 (.cond (.t 76) (.reg [Qm 77 0,
 Qo 78 (.ldl (.t 8) (some 6)),
 Qo 79 (.call 88 [(.t 77),(.t 78)])] [0,4])
 (.reg [Qm 80 0,
 Qo 81 (.ldl (.t 8) (some 6)),
 Qo 82 (.call 45 [(.t 80),(.t 81),(.c (.d (.int .i64 4)))])] [0,4]))))
 (.reg [Qm 83 0,
 Qo 84 (.fld (.t 4) 4),
 Qo 85 (.ldl (.t 84) none),
 Qo 86 (.sls (.t 85) (some (.c (.d (.int .i64 1)))) none none 6),
 Qo 87 (.call 92 [(.t 83),(.t 86)])] []))
 (.reg [Qm 18 0,
 Qo 19 (.ldl (.t 4) (some 6)),
 Qo 20 (.call 93 [(.t 18),(.t 19)])] [])))))))))))
noncomputable def Dh:Cx:=⟨Tryz.prog,45,Tryz.f45,88,[300009,300014,300017,300029,300035,300041,300050,300057,300065,300069,300073,300078,300081,300085,300019],[],[]⟩
theorem Bi:Good Dh:=⟨Tryz.func45,by kernel_rfl⟩
theorem Q4:Dh.rs=[]:=rfl
theorem KD (hl:args.length≤88) (h:Run Dh K [.code Jp] (At args) E σ):AP Tryz.prog 45 args σ K:=
 AX (cx:=Dh) (code:=Tryz.f45.body.getD .skip) Bi (by kernel_rfl) Tryz.ntmps45 hl (AZ Dh _ (Ax Jp) _ [] (by kernel_rfl)) h
def Ho:C:=(.seq (.reg [Qo 2 (.mv (.c (.d (.str []))))] [0])
 (.seq (.reg [Qm 3 0,
 Qo 4 (.nck (.t 3)),
 Qo 5 (.fld (.t 4) 1),
 Qo 6 (.ld (.t 5) none),
 Qo 7 (.ex .usd [(.t 6)]),
 Qm 8 0,
 Qo 9 (.nck (.t 8)),
 Qo 10 (.fld (.t 9) 1),
 Qo 11 (.ld (.t 10) none),
 Qo 12 (.len (.t 11)),
 Qo 13 (.ex (.jG 5) [(.t 7),(.t 12)]),
 Qm 2 13] [2])
 .ret))
noncomputable def Cn:Cx:=⟨Tryz.prog,46,Tryz.f46,14,[],[],[.t 2]⟩
theorem Hw:Good Cn:=⟨Tryz.func46,by kernel_rfl⟩
theorem Nr:Cn.rs=[.t 2]:=rfl
theorem OS (hl:args.length≤14) (h:Run Cn K [.code Ho] (At args) E σ):AP Tryz.prog 46 args σ K:=
 AX (cx:=Cn) (code:=Tryz.f46.body.getD .skip) Hw (by kernel_rfl) Tryz.ntmps46 hl (AZ Cn _ (Ax Ho) _ [] (by kernel_rfl)) h
def dG:C:=(.seq (.seq (.reg [Qm 5 4,
 Qm 6 0,
 Qo 7 (.len (.t 6)),
 Qo 8 (.bin .lss (.t 5) (.t 7))] [0,3,4,8])
 (.cond (.t 8) .skip
 (.exit 0)))
 (.seq (.block 1 (.seq (.seq (.reg [Qm 11 4,
 Qo 12 (.bin .gtr (.t 11) (.c (.d (.int .i64 0))))] [0,3,4,12])
 (.cond (.t 12) (.reg [Qm 13 3,
 Qo 14 (.bin .add (.t 13) (.c (.d (.str [44,32])))),
 Qm 3 14] [0,3,4])
 .skip))
 (.reg [Qm 15 3,
 Qm 16 0,
 Qm 17 4,
 Qo 18 (.ix (.t 16) (.t 17) 1),
 Qo 19 (.ld (.t 18) none),
 Qo 20 (.bin .add (.t 15) (.t 19)),
 Qm 3 20] [0,3,4])))
 (.reg [Qm 9 4,
 Qo 10 (.bin .add (.t 9) (.c (.d (.int .i64 1)))),
 Qm 4 10] [0,3,4])))
def bM:C:=(.seq (.reg [Qo 2 (.mv (.c (.d (.str []))))] [0])
 (.seq (.reg [Qo 3 (.mv (.c (.d (.str []))))] [0,3])
 (.seq (.seq (.reg [Qo 4 (.mv (.c (.d (.int .i64 0))))] [0,3,4])
 (.block 0 (.loop dG)))
 (.seq (.reg [Qm 21 3,
 Qm 2 21] [2])
 .ret))))
noncomputable def Pe:Cx:=⟨Tryz.prog,47,Tryz.f47,22,[],[],[.t 2]⟩
theorem bV:Good Pe:=⟨Tryz.func47,by kernel_rfl⟩
theorem lX:Pe.rs=[.t 2]:=rfl
theorem pR (hl:args.length≤22) (h:Run Pe K [.code bM] (At args) E σ):AP Tryz.prog 47 args σ K:=
 AX (cx:=Pe) (code:=Tryz.f47.body.getD .skip) bV (by kernel_rfl) Tryz.ntmps47 hl (AZ Pe _ (Ax bM) _ [] (by kernel_rfl)) h
def dH:C:=(.seq (.seq (.reg [Qm 38 6,
 Qo 39 (.fld (.t 1) 4),
 Qo 40 (.ldl (.t 39) none),
 Qo 41 (.len (.t 40)),
 Qo 42 (.bin .lss (.t 38) (.t 41))] [1,5,6,42])
 (.cond (.t 42) .skip
 (.exit 1)))
 (.seq (.block 2 (.seq (.reg [Qo 7 (.mv (.c (.d (.int .i64 0))))] [1,5,6,7])
 (.seq (.seq (.reg [Qo 45 (.fld (.t 1) 0),
 Qo 46 (.ldl (.t 45) none),
 Qo 47 (.bin .eql (.t 46) (.c (.d (.int .i64 12)))),
 Qm 48 47,
 ⟨some 49,.mv (.t 6),some (48,true)⟩,
 ⟨some 50,.bin .eql (.t 49) (.c (.d (.int .i64 0))),some (48,true)⟩,
 Qo 51 (.pick (.t 48) (.t 50) (.c (.d (.bool false))))] [1,5,6,7,51])
 (.cond (.t 51) (.reg [Qo 7 (.mv (.c (.d (.int .i64 4))))] [1,5,6,7])
 .skip))
 (.reg [Qm 52 5,
 Qo 53 (.fld (.t 1) 4),
 Qo 54 (.ldl (.t 53) none),
 Qm 55 6,
 Qo 56 (.ix (.t 54) (.t 55) 6),
 Qo 57 (.ld (.t 56) (some 6)),
 Qm 58 7,
 Qo 59 (.call 95 [(.t 57),(.t 58)]),
 Qo 60 (.bsl 1 1 [(.d (.str []))] [(0,1,(.t 59))]),
 Qo 61 (.Xz 9 1 16 (.t 52) (.t 60)),
 Qm 5 61] [1,5,6]))))
 (.reg [Qm 43 6,
 Qo 44 (.bin .add (.t 43) (.c (.d (.int .i64 1)))),
 Qm 6 44] [1,5,6])))
def dI:C:=(.seq (.seq (.reg [Qm 155 9,
 Qo 156 (.fld (.t 1) 5),
 Qo 157 (.ldl (.t 156) none),
 Qo 158 (.len (.t 157)),
 Qo 159 (.bin .lss (.t 155) (.t 158))] [1,8,9,159])
 (.cond (.t 159) .skip
 (.exit 4)))
 (.seq (.block 5 (.seq (.seq (.reg [Qm 162 9,
 Qo 163 (.bin .gtr (.t 162) (.c (.d (.int .i64 0))))] [1,8,9,163])
 (.cond (.t 163) (.reg [Qm 164 8,
 Qo 165 (.bin .add (.t 164) (.c (.d (.str [32,124,32])))),
 Qm 8 165] [1,8,9])
 .skip))
 (.seq (.reg [Qm 166 8,
 Qo 167 (.fld (.t 1) 5),
 Qo 168 (.ldl (.t 167) none),
 Qm 169 9,
 Qo 170 (.ix (.t 168) (.t 169) 8),
 Qo 171 (.fld (.t 170) 0),
 Qo 172 (.ld (.t 171) none),
 Qo 173 (.bin .add (.t 166) (.t 172)),
 Qm 8 173] [1,8,9])
 (.seq (.seq (.reg [Qo 174 (.fld (.t 1) 5),
 Qo 175 (.ldl (.t 174) none),
 Qm 176 9,
 Qo 177 (.ix (.t 175) (.t 176) 8),
 Qo 178 (.fld (.t 177) 1),
 Qo 179 (.ld (.t 178) none),
 Qo 180 (.len (.t 179)),
 Qo 181 (.bin .gtr (.t 180) (.c (.d (.int .i64 0))))] [1,8,9,181])
 (.cond (.t 181) (.reg [Qm 182 8,
 Qo 183 (.fld (.t 1) 5),
 Qo 184 (.ldl (.t 183) none),
 Qm 185 9,
 Qo 186 (.ix (.t 184) (.t 185) 8),
 Qo 187 (.fld (.t 186) 1),
 Qo 188 (.ld (.t 187) none),
 Qo 189 (.call 99 [(.t 188)]),
 Qo 190 (.bin .add (.c (.d (.str [40]))) (.t 189)),
 Qo 191 (.bin .add (.t 190) (.c (.d (.str [41])))),
 Qo 192 (.bin .add (.t 182) (.t 191)),
 Qm 8 192] [1,8,9])
 .skip))
 (.reg [Qm 193 8,
 Qo 194 (.fld (.t 1) 5),
 Qo 195 (.ldl (.t 194) none),
 Qm 196 9,
 Qo 197 (.ix (.t 195) (.t 196) 8),
 Qo 198 (.fld (.t 197) 2),
 Qo 199 (.ld (.t 198) (some 6)),
 Qo 200 (.call 49 [(.t 199)]),
 Qo 201 (.bin .add (.c (.d (.str [32,45,62,32]))) (.t 200)),
 Qo 202 (.bin .add (.t 193) (.t 201)),
 Qm 8 202] [1,8,9])))))
 (.reg [Qm 160 9,
 Qo 161 (.bin .add (.t 160) (.c (.d (.int .i64 1)))),
 Qm 9 161] [1,8,9])))
def pA:C:=(.seq (.reg [Qo 1 (.box (.t 0) false),
 Qo 2 (.mv (.c (.d (.str []))))] [1])
 (.seq (.seq (.reg [Qo 10 (.fld (.t 1) 0),
 Qo 11 (.ldl (.t 10) none),
 Qo 12 (.bin .eql (.t 11) (.c (.d (.int .i64 13))))] [1,12])
 (.cond (.t 12) (.seq (.reg [Qo 3 (.mv (.c (.d (.int .i64 2)))),
 Qo 4 (.mv (.c (.d (.int .i64 2))))] [1,3,4])
 (.seq (.seq (.reg [Qo 13 (.ldl (.t 1) (some 6)),
 Qo 14 (.call 94 [(.t 13)])] [1,3,4,14])
 (.block 0 (.seq (.reg [Qo 16 (.bin .eql (.t 14) (.c (.d (.int .i64 2)))),
 Qm 15 16] [1,3,4,14,15])
 (.cond (.t 15) (.reg [Qo 3 (.mv (.c (.d (.int .i64 2)))),
 Qo 4 (.mv (.c (.d (.int .i64 3))))] [1,3,4])
 (.seq (.reg [Qo 18 (.bin .eql (.t 14) (.c (.d (.int .i64 3)))),
 Qm 17 18] [1,3,4,17])
 (.cond (.t 17) (.reg [Qo 3 (.mv (.c (.d (.int .i64 3)))),
 Qo 4 (.mv (.c (.d (.int .i64 4))))] [1,3,4])
 .skip))))))
 (.seq (.FZ (.one (Qo 19 (.fld (.t 1) 4))
 (.one (Qo 20 (.ldl (.t 19) none))
 (.one (Qo 21 (.ix (.t 20) (.c (.d (.int .i64 0))) 6))
 (.one (Qo 22 (.ld (.t 21) (some 6)))
 (.one (Qm 23 3)
 (.one (Qo 26 (.fld (.t 1) 2))
 (.one (Qo 27 (.ldl (.t 26) none))
 (.one (Qo 31 (.fld (.t 1) 4))
 (.one (Qo 32 (.ldl (.t 31) none))
 (.one (Qo 33 (.ix (.t 32) (.c (.d (.int .i64 1))) 6))
 (.one (Qm 35 4)
 (.alt (Qo 24 (.call 95 [(.t 22),(.t 23)]))
 (.one (Qo 25 (.bin .add (.t 24) (.c (.d (.str [32])))))
 (.alt (Qo 28 (.call 96 [(.t 27)]))
 (.one (Qo 29 (.bin .add (.t 25) (.t 28)))
 (.one (Qo 30 (.bin .add (.t 29) (.c (.d (.str [32])))))
 (.one (Qo 34 (.ld (.t 33) (some 6)))
 (.one (Qo 36 (.call 95 [(.t 34),(.t 35)]))
 (.one (Qo 37 (.bin .add (.t 30) (.t 36)))
 (.one (Qm 2 37)
 .done))))))
 (.alt (Qo 34 (.ld (.t 33) (some 6)))
 (.one (Qo 28 (.call 96 [(.t 27)]))
 (.one (Qo 29 (.bin .add (.t 25) (.t 28)))
 (.one (Qo 30 (.bin .add (.t 29) (.c (.d (.str [32])))))
 (.one (Qo 36 (.call 95 [(.t 34),(.t 35)]))
 (.one (Qo 37 (.bin .add (.t 30) (.t 36)))
 (.one (Qm 2 37)
 .done))))))
 .done)))
 (.alt (Qo 34 (.ld (.t 33) (some 6)))
 (.one (Qo 24 (.call 95 [(.t 22),(.t 23)]))
 (.one (Qo 25 (.bin .add (.t 24) (.c (.d (.str [32])))))
 (.one (Qo 28 (.call 96 [(.t 27)]))
 (.one (Qo 29 (.bin .add (.t 25) (.t 28)))
 (.one (Qo 30 (.bin .add (.t 29) (.c (.d (.str [32])))))
 (.one (Qo 36 (.call 95 [(.t 34),(.t 35)]))
 (.one (Qo 37 (.bin .add (.t 30) (.t 36)))
 (.one (Qm 2 37)
 .done))))))))
 .done))))))))))))) [2])
 .ret)))
 .skip))
 (.seq (.reg [Qo 5 (.mv (.c .AY))] [1,5])
 (.seq (.seq (.reg [Qo 6 (.mv (.c (.d (.int .i64 0))))] [1,5,6])
 (.block 1 (.loop dH)))
 (.seq (.seq (.reg [Qo 62 (.fld (.t 1) 0),
 Qo 63 (.ldl (.t 62) none)] [1,5,63])
 (.block 3 (.seq (.reg [Qo 65 (.bin .eql (.t 63) (.c (.d (.int .i64 1)))),
 Qm 64 65] [1,5,63,64])
 (.cond (.t 64) (.seq (.reg [Qo 2 (.mv (.c (.d (.str [40,41]))))] [2])
 .ret)
 (.seq (.reg [Qo 67 (.bin .eql (.t 63) (.c (.d (.int .i64 2)))),
 Qm 66 67] [1,5,63,66])
 (.cond (.t 66) (.seq (.seq (.reg [Qo 68 (.fld (.t 1) 2),
 Qo 69 (.ldl (.t 68) none),
 Qo 70 (.bin .eql (.t 69) (.c (.d (.int .i64 1))))] [70])
 (.cond (.t 70) (.seq (.reg [Qo 2 (.mv (.c (.d (.str [116,114,117,101]))))] [2])
 .ret)
 .skip))
 (.seq (.reg [Qo 2 (.mv (.c (.d (.str [102,97,108,115,101]))))] [2])
 .ret))
 (.seq (.reg [Qo 72 (.bin .eql (.t 63) (.c (.d (.int .i64 3)))),
 Qm 71 72] [1,5,63,71])
 (.cond (.t 71) (.seq (.reg [Qo 73 (.fld (.t 1) 2),
 Qo 74 (.ldl (.t 73) none),
 Qo 75 (.call 97 [(.t 74)]),
 Qm 2 75] [2])
 .ret)
 (.seq (.reg [Qo 77 (.bin .eql (.t 63) (.c (.d (.int .i64 4)))),
 Qm 76 77] [1,5,63,76])
 (.cond (.t 76) (.seq (.reg [Qo 78 (.fld (.t 1) 1),
 Qo 79 (.ldl (.t 78) none),
 Qm 2 79] [2])
 .ret)
 (.seq (.reg [Qo 81 (.bin .eql (.t 63) (.c (.d (.int .i64 5)))),
 Qm 80 81] [1,5,63,80])
 (.cond (.t 80) (.seq (.reg [Qm 82 5,
 Qo 83 (.call 47 [(.t 82)]),
 Qo 84 (.bin .add (.c (.d (.str [40]))) (.t 83)),
 Qo 85 (.bin .add (.t 84) (.c (.d (.str [41])))),
 Qm 2 85] [2])
 .ret)
 (.seq (.reg [Qo 87 (.bin .eql (.t 63) (.c (.d (.int .i64 6)))),
 Qm 86 87] [1,5,63,86])
 (.cond (.t 86) (.seq (.seq (.reg [Qm 88 5,
 Qo 89 (.len (.t 88)),
 Qo 90 (.bin .eql (.t 89) (.c (.d (.int .i64 0))))] [1,5,90])
 (.cond (.t 90) (.seq (.reg [Qo 91 (.fld (.t 1) 1),
 Qo 92 (.ldl (.t 91) none),
 Qm 2 92] [2])
 .ret)
 .skip))
 (.seq (.reg [Qo 93 (.fld (.t 1) 1),
 Qo 94 (.ldl (.t 93) none),
 Qo 95 (.bin .add (.t 94) (.c (.d (.str [40])))),
 Qm 96 5,
 Qo 97 (.call 47 [(.t 96)]),
 Qo 98 (.bin .add (.t 95) (.t 97)),
 Qo 99 (.bin .add (.t 98) (.c (.d (.str [41])))),
 Qm 2 99] [2])
 .ret))
 (.seq (.reg [Qo 101 (.bin .eql (.t 63) (.c (.d (.int .i64 7)))),
 Qm 100 101] [1,5,63,100])
 (.cond (.t 100) (.seq (.FZ (.one (Qo 102 (.fld (.t 1) 1))
 (.one (Qo 103 (.ldl (.t 102) none))
 (.one (Qm 107 5)
 (.one (Qo 108 (.ix (.t 107) (.c (.d (.int .i64 0))) 1))
 (.one (Qm 112 5)
 (.one (Qo 113 (.ix (.t 112) (.c (.d (.int .i64 1))) 1))
 (.alt (Qo 104 (.call 98 [(.t 103)]))
 (.one (Qo 105 (.bin .add (.c (.d (.str [108,101,116,32]))) (.t 104)))
 (.one (Qo 106 (.bin .add (.t 105) (.c (.d (.str [32,61,32])))))
 (.one (Qo 109 (.ld (.t 108) none))
 (.one (Qo 110 (.bin .add (.t 106) (.t 109)))
 (.one (Qo 111 (.bin .add (.t 110) (.c (.d (.str [32,105,110,32])))))
 (.one (Qo 114 (.ld (.t 113) none))
 (.one (Qo 115 (.bin .add (.t 111) (.t 114)))
 (.one (Qm 2 115)
 .done))))))))
 (.alt (Qo 109 (.ld (.t 108) none))
 (.alt (Qo 104 (.call 98 [(.t 103)]))
 (.one (Qo 105 (.bin .add (.c (.d (.str [108,101,116,32]))) (.t 104)))
 (.one (Qo 106 (.bin .add (.t 105) (.c (.d (.str [32,61,32])))))
 (.one (Qo 110 (.bin .add (.t 106) (.t 109)))
 (.one (Qo 111 (.bin .add (.t 110) (.c (.d (.str [32,105,110,32])))))
 (.one (Qo 114 (.ld (.t 113) none))
 (.one (Qo 115 (.bin .add (.t 111) (.t 114)))
 (.one (Qm 2 115)
 .done)))))))
 (.alt (Qo 114 (.ld (.t 113) none))
 (.one (Qo 104 (.call 98 [(.t 103)]))
 (.one (Qo 105 (.bin .add (.c (.d (.str [108,101,116,32]))) (.t 104)))
 (.one (Qo 106 (.bin .add (.t 105) (.c (.d (.str [32,61,32])))))
 (.one (Qo 110 (.bin .add (.t 106) (.t 109)))
 (.one (Qo 111 (.bin .add (.t 110) (.c (.d (.str [32,105,110,32])))))
 (.one (Qo 115 (.bin .add (.t 111) (.t 114)))
 (.one (Qm 2 115)
 .done)))))))
 .done))
 (.alt (Qo 114 (.ld (.t 113) none))
 (.alt (Qo 104 (.call 98 [(.t 103)]))
 (.one (Qo 105 (.bin .add (.c (.d (.str [108,101,116,32]))) (.t 104)))
 (.one (Qo 106 (.bin .add (.t 105) (.c (.d (.str [32,61,32])))))
 (.one (Qo 109 (.ld (.t 108) none))
 (.one (Qo 110 (.bin .add (.t 106) (.t 109)))
 (.one (Qo 111 (.bin .add (.t 110) (.c (.d (.str [32,105,110,32])))))
 (.one (Qo 115 (.bin .add (.t 111) (.t 114)))
 (.one (Qm 2 115)
 .done)))))))
 (.alt (Qo 109 (.ld (.t 108) none))
 (.one (Qo 104 (.call 98 [(.t 103)]))
 (.one (Qo 105 (.bin .add (.c (.d (.str [108,101,116,32]))) (.t 104)))
 (.one (Qo 106 (.bin .add (.t 105) (.c (.d (.str [32,61,32])))))
 (.one (Qo 110 (.bin .add (.t 106) (.t 109)))
 (.one (Qo 111 (.bin .add (.t 110) (.c (.d (.str [32,105,110,32])))))
 (.one (Qo 115 (.bin .add (.t 111) (.t 114)))
 (.one (Qm 2 115)
 .done)))))))
 .done))
 .done))))))))) [2])
 .ret)
 (.seq (.reg [Qo 117 (.bin .eql (.t 63) (.c (.d (.int .i64 8)))),
 Qm 116 117] [1,5,63,116])
 (.cond (.t 116) (.seq (.FZ (.one (Qo 118 (.fld (.t 1) 3))
 (.one (Qo 119 (.ldl (.t 118) none))
 (.one (Qm 123 5)
 (.one (Qo 124 (.ix (.t 123) (.c (.d (.int .i64 0))) 1))
 (.one (Qm 128 5)
 (.one (Qo 129 (.ix (.t 128) (.c (.d (.int .i64 1))) 1))
 (.alt (Qo 120 (.call 99 [(.t 119)]))
 (.one (Qo 121 (.bin .add (.c (.d (.str [108,101,116,32,40]))) (.t 120)))
 (.one (Qo 122 (.bin .add (.t 121) (.c (.d (.str [41,32,61,32])))))
 (.one (Qo 125 (.ld (.t 124) none))
 (.one (Qo 126 (.bin .add (.t 122) (.t 125)))
 (.one (Qo 127 (.bin .add (.t 126) (.c (.d (.str [32,105,110,32])))))
 (.one (Qo 130 (.ld (.t 129) none))
 (.one (Qo 131 (.bin .add (.t 127) (.t 130)))
 (.one (Qm 2 131)
 .done))))))))
 (.alt (Qo 125 (.ld (.t 124) none))
 (.alt (Qo 120 (.call 99 [(.t 119)]))
 (.one (Qo 121 (.bin .add (.c (.d (.str [108,101,116,32,40]))) (.t 120)))
 (.one (Qo 122 (.bin .add (.t 121) (.c (.d (.str [41,32,61,32])))))
 (.one (Qo 126 (.bin .add (.t 122) (.t 125)))
 (.one (Qo 127 (.bin .add (.t 126) (.c (.d (.str [32,105,110,32])))))
 (.one (Qo 130 (.ld (.t 129) none))
 (.one (Qo 131 (.bin .add (.t 127) (.t 130)))
 (.one (Qm 2 131)
 .done)))))))
 (.alt (Qo 130 (.ld (.t 129) none))
 (.one (Qo 120 (.call 99 [(.t 119)]))
 (.one (Qo 121 (.bin .add (.c (.d (.str [108,101,116,32,40]))) (.t 120)))
 (.one (Qo 122 (.bin .add (.t 121) (.c (.d (.str [41,32,61,32])))))
 (.one (Qo 126 (.bin .add (.t 122) (.t 125)))
 (.one (Qo 127 (.bin .add (.t 126) (.c (.d (.str [32,105,110,32])))))
 (.one (Qo 131 (.bin .add (.t 127) (.t 130)))
 (.one (Qm 2 131)
 .done)))))))
 .done))
 (.alt (Qo 130 (.ld (.t 129) none))
 (.alt (Qo 120 (.call 99 [(.t 119)]))
 (.one (Qo 121 (.bin .add (.c (.d (.str [108,101,116,32,40]))) (.t 120)))
 (.one (Qo 122 (.bin .add (.t 121) (.c (.d (.str [41,32,61,32])))))
 (.one (Qo 125 (.ld (.t 124) none))
 (.one (Qo 126 (.bin .add (.t 122) (.t 125)))
 (.one (Qo 127 (.bin .add (.t 126) (.c (.d (.str [32,105,110,32])))))
 (.one (Qo 131 (.bin .add (.t 127) (.t 130)))
 (.one (Qm 2 131)
 .done)))))))
 (.alt (Qo 125 (.ld (.t 124) none))
 (.one (Qo 120 (.call 99 [(.t 119)]))
 (.one (Qo 121 (.bin .add (.c (.d (.str [108,101,116,32,40]))) (.t 120)))
 (.one (Qo 122 (.bin .add (.t 121) (.c (.d (.str [41,32,61,32])))))
 (.one (Qo 126 (.bin .add (.t 122) (.t 125)))
 (.one (Qo 127 (.bin .add (.t 126) (.c (.d (.str [32,105,110,32])))))
 (.one (Qo 131 (.bin .add (.t 127) (.t 130)))
 (.one (Qm 2 131)
 .done)))))))
 .done))
 .done))))))))) [2])
 .ret)
 (.seq (.reg [Qo 133 (.bin .eql (.t 63) (.c (.d (.int .i64 9)))),
 Qm 132 133] [1,5,63,132])
 (.cond (.t 132) (.seq (.reg [Qm 134 5,
 Qo 135 (.ix (.t 134) (.c (.d (.int .i64 0))) 1),
 Qo 136 (.ld (.t 135) none),
 Qo 137 (.bin .add (.c (.d (.str [105,102,32]))) (.t 136)),
 Qo 138 (.bin .add (.t 137) (.c (.d (.str [32,116,104,101,110,32])))),
 Qm 139 5,
 Qo 140 (.ix (.t 139) (.c (.d (.int .i64 1))) 1),
 Qo 141 (.ld (.t 140) none),
 Qo 142 (.bin .add (.t 138) (.t 141)),
 Qo 143 (.bin .add (.t 142) (.c (.d (.str [32,101,108,115,101,32])))),
 Qm 144 5,
 Qo 145 (.ix (.t 144) (.c (.d (.int .i64 2))) 1),
 Qo 146 (.ld (.t 145) none),
 Qo 147 (.bin .add (.t 143) (.t 146)),
 Qm 2 147] [2])
 .ret)
 (.seq (.reg [Qo 149 (.bin .eql (.t 63) (.c (.d (.int .i64 10)))),
 Qm 148 149] [1,5,63,148])
 (.cond (.t 148) (.seq (.reg [Qm 150 5,
 Qo 151 (.ix (.t 150) (.c (.d (.int .i64 0))) 1),
 Qo 152 (.ld (.t 151) none),
 Qo 153 (.bin .add (.c (.d (.str [109,97,116,99,104,32]))) (.t 152)),
 Qo 154 (.bin .add (.t 153) (.c (.d (.str [32,119,105,116,104,32])))),
 Qm 8 154] [1,8])
 (.seq (.seq (.reg [Qo 9 (.mv (.c (.d (.int .i64 0))))] [1,8,9])
 (.block 4 (.loop dI)))
 (.seq (.reg [Qm 203 8,
 Qo 204 (.bin .add (.t 203) (.c (.d (.str [32,101,110,100])))),
 Qm 2 204] [2])
 .ret)))
 (.seq (.reg [Qo 206 (.bin .eql (.t 63) (.c (.d (.int .i64 11)))),
 Qm 205 206] [1,5,63,205])
 (.cond (.t 205) (.seq (.FZ (.one (Qo 207 (.fld (.t 1) 3))
 (.one (Qo 208 (.ldl (.t 207) none))
 (.one (Qm 212 5)
 (.one (Qo 213 (.ix (.t 212) (.c (.d (.int .i64 0))) 1))
 (.alt (Qo 209 (.call 47 [(.t 208)]))
 (.one (Qo 210 (.bin .add (.c (.d (.str [102,110,40]))) (.t 209)))
 (.one (Qo 211 (.bin .add (.t 210) (.c (.d (.str [41,32,45,62,32])))))
 (.one (Qo 214 (.ld (.t 213) none))
 (.one (Qo 215 (.bin .add (.t 211) (.t 214)))
 (.one (Qm 2 215)
 .done)))))
 (.alt (Qo 214 (.ld (.t 213) none))
 (.one (Qo 209 (.call 47 [(.t 208)]))
 (.one (Qo 210 (.bin .add (.c (.d (.str [102,110,40]))) (.t 209)))
 (.one (Qo 211 (.bin .add (.t 210) (.c (.d (.str [41,32,45,62,32])))))
 (.one (Qo 215 (.bin .add (.t 211) (.t 214)))
 (.one (Qm 2 215)
 .done)))))
 .done)))))) [2])
 .ret)
 (.seq (.reg [Qo 217 (.bin .eql (.t 63) (.c (.d (.int .i64 12)))),
 Qm 216 217] [1,5,63,216])
 (.cond (.t 216) (.seq (.seq (.reg [Qo 218 (.fld (.t 1) 4),
 Qo 219 (.ldl (.t 218) none),
 Qo 220 (.ix (.t 219) (.c (.d (.int .i64 0))) 6),
 Qo 221 (.fld (.t 220) 0),
 Qo 222 (.ld (.t 221) none),
 Qo 223 (.bin .eql (.t 222) (.c (.d (.int .i64 6)))),
 Qm 224 223,
 ⟨some 225,.fld (.t 1) 4,some (224,true)⟩,
 ⟨some 226,.ldl (.t 225) none,some (224,true)⟩,
 ⟨some 227,.ix (.t 226) (.c (.d (.int .i64 0))) 6,some (224,true)⟩,
 ⟨some 228,.fld (.t 227) 4,some (224,true)⟩,
 ⟨some 229,.ld (.t 228) none,some (224,true)⟩,
 ⟨some 230,.len (.t 229),some (224,true)⟩,
 ⟨some 231,.bin .eql (.t 230) (.c (.d (.int .i64 0))),some (224,true)⟩,
 Qo 232 (.pick (.t 224) (.t 231) (.c (.d (.bool false))))] [5,232])
 (.cond (.t 232) (.reg [Qm 233 5,
 Qm 234 5,
 Qo 235 (.ix (.t 234) (.c (.d (.int .i64 0))) 1),
 Qo 236 (.ld (.t 235) none),
 Qo 237 (.bin .add (.c (.d (.str [40]))) (.t 236)),
 Qo 238 (.bin .add (.t 237) (.c (.d (.str [41])))),
 Qo 239 (.ix (.t 233) (.c (.d (.int .i64 0))) 1),
 ⟨none,.st (.t 239) (.t 238) 1,none⟩] [5])
 .skip))
 (.seq (.FZ (.one (Qm 240 5)
 (.one (Qo 241 (.ix (.t 240) (.c (.d (.int .i64 0))) 1))
 (.one (Qm 244 5)
 (.one (Qo 245 (.sls (.t 244) (some (.c (.d (.int .i64 1)))) none none 1))
 (.alt (Qo 242 (.ld (.t 241) none))
 (.one (Qo 243 (.bin .add (.t 242) (.c (.d (.str [40])))))
 (.one (Qo 246 (.call 47 [(.t 245)]))
 (.one (Qo 247 (.bin .add (.t 243) (.t 246)))
 (.one (Qo 248 (.bin .add (.t 247) (.c (.d (.str [41])))))
 (.one (Qm 2 248)
 .done)))))
 (.alt (Qo 246 (.call 47 [(.t 245)]))
 (.one (Qo 242 (.ld (.t 241) none))
 (.one (Qo 243 (.bin .add (.t 242) (.c (.d (.str [40])))))
 (.one (Qo 247 (.bin .add (.t 243) (.t 246)))
 (.one (Qo 248 (.bin .add (.t 247) (.c (.d (.str [41])))))
 (.one (Qm 2 248)
 .done)))))
 .done)))))) [2])
 .ret))
 (.seq (.reg [Qo 250 (.bin .eql (.t 63) (.c (.d (.int .i64 14)))),
 Qm 249 250] [1,5,63,249])
 (.cond (.t 249) (.seq (.reg [Qo 251 (.fld (.t 1) 2),
 Qo 252 (.ldl (.t 251) none),
 Qo 253 (.call 100 [(.t 252)]),
 Qo 254 (.bin .add (.t 253) (.c (.d (.str [40])))),
 Qm 255 5,
 Qo 256 (.call 47 [(.t 255)]),
 Qo 257 (.bin .add (.t 254) (.t 256)),
 Qo 258 (.bin .add (.t 257) (.c (.d (.str [41])))),
 Qm 2 258] [2])
 .ret)
 (.seq (.reg [Qo 260 (.bin .eql (.t 63) (.c (.d (.int .i64 15)))),
 Qm 259 260] [1,5,63,259])
 (.cond (.t 259) (.seq (.reg [Qo 261 (.fld (.t 1) 2),
 Qo 262 (.ldl (.t 261) none),
 Qo 263 (.call 97 [(.t 262)]),
 Qo 264 (.bin .add (.c (.d (.str [116,105,99,107,40]))) (.t 263)),
 Qo 265 (.bin .add (.t 264) (.c (.d (.str [41])))),
 Qm 2 265] [2])
 .ret)
 (.seq (.reg [Qo 267 (.bin .eql (.t 63) (.c (.d (.int .i64 16)))),
 Qm 266 267] [1,5,266])
 (.cond (.t 266) (.seq (.reg [Qm 268 5,
 Qo 269 (.ix (.t 268) (.c (.d (.int .i64 0))) 1),
 Qo 270 (.ld (.t 269) none),
 Qo 271 (.bin .add (.c (.d (.str [114,97,105,115,101,40]))) (.t 270)),
 Qo 272 (.bin .add (.t 271) (.c (.d (.str [41])))),
 Qm 2 272] [2])
 .ret)
 .skip))))))))))))))))))))))))))))))))
 (.seq (.FZ (.one (Qm 273 5)
 (.one (Qo 274 (.ix (.t 273) (.c (.d (.int .i64 0))) 1))
 (.one (Qo 278 (.fld (.t 1) 1))
 (.one (Qo 279 (.ldl (.t 278) none))
 (.one (Qm 283 5)
 (.one (Qo 284 (.ix (.t 283) (.c (.d (.int .i64 1))) 1))
 (.alt (Qo 275 (.ld (.t 274) none))
 (.one (Qo 276 (.bin .add (.c (.d (.str [116,114,121,32]))) (.t 275)))
 (.one (Qo 277 (.bin .add (.t 276) (.c (.d (.str [32,99,97,116,99,104,32])))))
 (.alt (Qo 280 (.call 98 [(.t 279)]))
 (.one (Qo 281 (.bin .add (.t 277) (.t 280)))
 (.one (Qo 282 (.bin .add (.t 281) (.c (.d (.str [32,45,62,32])))))
 (.one (Qo 285 (.ld (.t 284) none))
 (.one (Qo 286 (.bin .add (.t 282) (.t 285)))
 (.one (Qo 287 (.bin .add (.t 286) (.c (.d (.str [32,101,110,100])))))
 (.one (Qm 2 287)
 .done))))))
 (.alt (Qo 285 (.ld (.t 284) none))
 (.one (Qo 280 (.call 98 [(.t 279)]))
 (.one (Qo 281 (.bin .add (.t 277) (.t 280)))
 (.one (Qo 282 (.bin .add (.t 281) (.c (.d (.str [32,45,62,32])))))
 (.one (Qo 286 (.bin .add (.t 282) (.t 285)))
 (.one (Qo 287 (.bin .add (.t 286) (.c (.d (.str [32,101,110,100])))))
 (.one (Qm 2 287)
 .done))))))
 .done))))
 (.alt (Qo 280 (.call 98 [(.t 279)]))
 (.one (Qo 275 (.ld (.t 274) none))
 (.one (Qo 276 (.bin .add (.c (.d (.str [116,114,121,32]))) (.t 275)))
 (.one (Qo 277 (.bin .add (.t 276) (.c (.d (.str [32,99,97,116,99,104,32])))))
 (.one (Qo 281 (.bin .add (.t 277) (.t 280)))
 (.one (Qo 282 (.bin .add (.t 281) (.c (.d (.str [32,45,62,32])))))
 (.one (Qo 285 (.ld (.t 284) none))
 (.one (Qo 286 (.bin .add (.t 282) (.t 285)))
 (.one (Qo 287 (.bin .add (.t 286) (.c (.d (.str [32,101,110,100])))))
 (.one (Qm 2 287)
 .done)))))))))
 (.alt (Qo 285 (.ld (.t 284) none))
 (.alt (Qo 275 (.ld (.t 274) none))
 (.one (Qo 276 (.bin .add (.c (.d (.str [116,114,121,32]))) (.t 275)))
 (.one (Qo 277 (.bin .add (.t 276) (.c (.d (.str [32,99,97,116,99,104,32])))))
 (.one (Qo 280 (.call 98 [(.t 279)]))
 (.one (Qo 281 (.bin .add (.t 277) (.t 280)))
 (.one (Qo 282 (.bin .add (.t 281) (.c (.d (.str [32,45,62,32])))))
 (.one (Qo 286 (.bin .add (.t 282) (.t 285)))
 (.one (Qo 287 (.bin .add (.t 286) (.c (.d (.str [32,101,110,100])))))
 (.one (Qm 2 287)
 .done))))))))
 (.alt (Qo 280 (.call 98 [(.t 279)]))
 (.one (Qo 275 (.ld (.t 274) none))
 (.one (Qo 276 (.bin .add (.c (.d (.str [116,114,121,32]))) (.t 275)))
 (.one (Qo 277 (.bin .add (.t 276) (.c (.d (.str [32,99,97,116,99,104,32])))))
 (.one (Qo 281 (.bin .add (.t 277) (.t 280)))
 (.one (Qo 282 (.bin .add (.t 281) (.c (.d (.str [32,45,62,32])))))
 (.one (Qo 286 (.bin .add (.t 282) (.t 285)))
 (.one (Qo 287 (.bin .add (.t 286) (.c (.d (.str [32,101,110,100])))))
 (.one (Qm 2 287)
 .done))))))))
 .done))
 .done))))))))) [2])
 .ret))))))
def rP:List (List Nat×PT):=[([1],.done),([1,12],.done),([1,3,4],.done),([1,3,4,14],.done),([1,3,4,14,15],.done),([1,3,4],.done),([1,3,4,17],.done),([1,3,4],.done),([2],(.one 0 (.one 1 (.one 2 (.one 3 (.one 4 (.one 7 (.one 8 (.one 12 (.one 13 (.one 14 (.one 16 (.alt 5 (.one 6 (.alt 9 (.one 10 (.one 11 (.one 15 (.one 17 (.one 18 (.one 19 .done)))))) (.alt 15 (.one 9 (.one 10 (.one 11 (.one 17 (.one 18 (.one 19 .done)))))) .done))) (.alt 15 (.one 5 (.one 6 (.one 9 (.one 10 (.one 11 (.one 17 (.one 18 (.one 19 .done)))))))) .done)))))))))))))),([1,5],.done),([1,5,6],.done),([1,5,6,42],.done),([1,5,6,7],.done),([1,5,6,7,51],.done),([1,5,6,7],.done),([1,5,6],.done),([1,5,6],.done),([1,5,63],.done),([1,5,63,64],.done),([2],.done),([1,5,63,66],.done),([70],.done),([2],.done),([2],.done),([1,5,63,71],.done),([2],.done),([1,5,63,76],.done),([2],.done),([1,5,63,80],.done),([2],.done),([1,5,63,86],.done),([1,5,90],.done),([2],.done),([2],.done),([1,5,63,100],.done),([2],(.one 0 (.one 1 (.one 5 (.one 6 (.one 10 (.one 11 (.alt 2 (.one 3 (.one 4 (.one 7 (.one 8 (.one 9 (.one 12 (.one 13 (.one 14 .done)))))))) (.alt 7 (.alt 2 (.one 3 (.one 4 (.one 8 (.one 9 (.one 12 (.one 13 (.one 14 .done))))))) (.alt 12 (.one 2 (.one 3 (.one 4 (.one 8 (.one 9 (.one 13 (.one 14 .done))))))) .done)) (.alt 12 (.alt 2 (.one 3 (.one 4 (.one 7 (.one 8 (.one 9 (.one 13 (.one 14 .done))))))) (.alt 7 (.one 2 (.one 3 (.one 4 (.one 8 (.one 9 (.one 13 (.one 14 .done))))))) .done)) .done)))))))))),([1,5,63,116],.done),([2],(.one 0 (.one 1 (.one 5 (.one 6 (.one 10 (.one 11 (.alt 2 (.one 3 (.one 4 (.one 7 (.one 8 (.one 9 (.one 12 (.one 13 (.one 14 .done)))))))) (.alt 7 (.alt 2 (.one 3 (.one 4 (.one 8 (.one 9 (.one 12 (.one 13 (.one 14 .done))))))) (.alt 12 (.one 2 (.one 3 (.one 4 (.one 8 (.one 9 (.one 13 (.one 14 .done))))))) .done)) (.alt 12 (.alt 2 (.one 3 (.one 4 (.one 7 (.one 8 (.one 9 (.one 13 (.one 14 .done))))))) (.alt 7 (.one 2 (.one 3 (.one 4 (.one 8 (.one 9 (.one 13 (.one 14 .done))))))) .done)) .done)))))))))),([1,5,63,132],.done),([2],.done),([1,5,63,148],.done),([1,8],.done),([1,8,9],.done),([1,8,9,159],.done),([1,8,9,163],.done),([1,8,9],.done),([1,8,9],.done),([1,8,9,181],.done),([1,8,9],.done),([1,8,9],.done),([1,8,9],.done),([2],.done),([1,5,63,205],.done),([2],(.one 0 (.one 1 (.one 5 (.one 6 (.alt 2 (.one 3 (.one 4 (.one 7 (.one 8 (.one 9 .done))))) (.alt 7 (.one 2 (.one 3 (.one 4 (.one 8 (.one 9 .done))))) .done))))))),([1,5,63,216],.done),([5,232],.done),([5],.done),([2],(.one 0 (.one 1 (.one 4 (.one 5 (.alt 2 (.one 3 (.one 6 (.one 7 (.one 8 (.one 9 .done))))) (.alt 6 (.one 2 (.one 3 (.one 7 (.one 8 (.one 9 .done))))) .done))))))),([1,5,63,249],.done),([2],.done),([1,5,63,259],.done),([2],.done),([1,5,266],.done),([2],.done),([2],(.one 0 (.one 1 (.one 5 (.one 6 (.one 10 (.one 11 (.alt 2 (.one 3 (.one 4 (.alt 7 (.one 8 (.one 9 (.one 12 (.one 13 (.one 14 (.one 15 .done)))))) (.alt 12 (.one 7 (.one 8 (.one 9 (.one 13 (.one 14 (.one 15 .done)))))) .done)))) (.alt 7 (.one 2 (.one 3 (.one 4 (.one 8 (.one 9 (.one 12 (.one 13 (.one 14 (.one 15 .done))))))))) (.alt 12 (.alt 2 (.one 3 (.one 4 (.one 7 (.one 8 (.one 9 (.one 13 (.one 14 (.one 15 .done)))))))) (.alt 7 (.one 2 (.one 3 (.one 4 (.one 8 (.one 9 (.one 13 (.one 14 (.one 15 .done)))))))) .done)) .done))))))))))]
noncomputable def Pf:Cx:=⟨Tryz.prog,49,Tryz.f49,288,[61,300011,300013,300020,300027,300032,300040,300046,300054,300063,300069,300074,300079,300092,300094,300103,300119,300157,300168,300175,300184,300195,300208,300219,300226,300252,300262,300279],[],[.t 2]⟩
theorem Bf:Good Pf:=⟨Tryz.func49,by kernel_rfl⟩
theorem lY:Pf.rs=[.t 2]:=rfl
theorem pS (hl:args.length≤288) (h:Run Pf K [.code pA] (At args) E σ):AP Tryz.prog 49 args σ K:=
 AX (cx:=Pf) (code:=Tryz.f49.body.getD .skip) Bf (by kernel_rfl) Tryz.ntmps49 hl (AZ Pf _ rP _ [] (by kernel_rfl)) h
def Ht:C:=(.seq (.reg [Qm 6 1,
 Qo 7 (.len (.t 6)),
 Qo 8 (.bin .gtr (.t 7) (.c (.d (.int .i64 0))))] [0,1,2,8])
 (.cond (.t 8) (.seq (.reg [Qm 9 0,
 Qo 10 (.nck (.t 9)),
 Qo 11 (.fld (.t 10) 0),
 Qo 12 (.call 43 [(.t 11),(.c (.d (.str [40])))])] [0,1,2])
 (.seq (.reg [Qm 13 0,
 Qm 14 1,
 Qm 15 2,
 Qo 16 (.call 134 [(.t 13),(.c (.d (.str [44,32]))),(.t 14),(.t 15)])] [0])
 (.reg [Qm 17 0,
 Qo 18 (.nck (.t 17)),
 Qo 19 (.fld (.t 18) 0),
 Qo 20 (.call 43 [(.t 19),(.c (.d (.str [41])))])] [])))
 .skip))
noncomputable def Cs:Cx:=⟨Tryz.prog,79,Tryz.f79,21,[],[],[]⟩
theorem FW:Good Cs:=⟨Tryz.func79,by kernel_rfl⟩
theorem Nw:Cs.rs=[]:=rfl
theorem OX (hl:args.length≤21) (h:Run Cs K [.code Ht] (At args) E σ):AP Tryz.prog 79 args σ K:=
 AX (cx:=Cs) (code:=Tryz.f79.body.getD .skip) FW (by kernel_rfl) Tryz.ntmps79 hl (AZ Cs _ (Ax Ht) _ [] (by kernel_rfl)) h
def Jt:C:=(.reg [Qm 4 0,
 Qo 5 (.nck (.t 4)),
 Qo 6 (.fld (.t 5) 0),
 Qm 7 1,
 Qo 8 (.call 43 [(.t 6),(.t 7)])] [])
noncomputable def Dm:Cx:=⟨Tryz.prog,80,Tryz.f80,9,[],[],[]⟩
theorem KB:Good Dm:=⟨Tryz.func80,by kernel_rfl⟩
theorem Q9:Dm.rs=[]:=rfl
theorem RP (hl:args.length≤9) (h:Run Dm K [.code Jt] (At args) E σ):AP Tryz.prog 80 args σ K:=
 AX (cx:=Dm) (code:=Tryz.f80.body.getD .skip) KB (by kernel_rfl) Tryz.ntmps80 hl (AZ Dm _ (Ax Jt) _ [] (by kernel_rfl)) h
def It:C:=(.seq (.reg [Qo 13 (.bin .lss (.t 12) (.t 11))] [0,1,3,10,11,12,13])
 (.seq (.cond (.t 13) .skip
 (.exit 0))
 (.seq (.block 1 (.seq (.reg [Qm 14 12,
 Qo 15 (.ix (.t 10) (.t 12) 2),
 Qo 16 (.ld (.t 15) (some 2)),
 Qo 9 (.al [(.d (.str [])),.AY] false),
 Qm 8 14,
 ⟨none,.st (.t 9) (.t 16) 2,none⟩] [0,1,3,8,9,10,11,12])
 (.seq (.seq (.reg [Qm 17 8,
 Qo 18 (.bin .gtr (.t 17) (.c (.d (.int .i64 0))))] [0,1,3,9,10,11,12,18])
 (.cond (.t 18) (.reg [Qm 19 0,
 Qo 20 (.nck (.t 19)),
 Qo 21 (.fld (.t 20) 0),
 Qm 22 1,
 Qo 23 (.call 43 [(.t 21),(.t 22)])] [0,1,3,9,10,11,12])
 .skip))
 (.reg [Qm 24 3,
 Qo 25 (.ldl (.t 9) (some 2)),
 Qo 26 (.EY (.t 24) [(.t 25)])] [0,1,3,10,11,12]))))
 (.reg [Qo 27 (.bin .add (.t 12) (.c (.d (.int .i64 1)))),
 Qm 12 27] [0,1,3,10,11,12]))))
def F9:C:=(.seq (.reg [Qm 10 2,
 Qo 11 (.len (.t 10)),
 Qo 12 (.mv (.c (.d (.int .i64 0))))] [0,1,3,10,11,12])
 (.block 0 (.loop It)))
noncomputable def Bn:Cx:=⟨Tryz.prog,81,Tryz.f81,28,[300025],[],[]⟩
theorem Ff:Good Bn:=⟨Tryz.func81,by kernel_rfl⟩
theorem Ji:Bn.rs=[]:=rfl
theorem KR (hl:args.length≤28) (h:Run Bn K [.code F9] (At args) E σ):AP Tryz.prog 81 args σ K:=
 AX (cx:=Bn) (code:=Tryz.f81.body.getD .skip) Ff (by kernel_rfl) Tryz.ntmps81 hl (AZ Bn _ (Ax F9) _ [] (by kernel_rfl)) h
def I7:C:=(.seq (.reg [Qo 2 (.box (.t 0) false)] [1,2])
 (.seq (.reg [Qo 3 (.ld (.t 1) none),
 Qo 4 (.nck (.t 3)),
 Qo 5 (.fld (.t 4) 0),
 Qo 6 (.fld (.t 2) 0),
 Qo 7 (.ldl (.t 6) none),
 Qo 8 (.call 43 [(.t 5),(.t 7)])] [1,2])
 (.reg [Qo 9 (.ld (.t 1) none),
 Qo 10 (.fld (.t 2) 1),
 Qo 11 (.ldl (.t 10) none),
 Qo 12 (.ld (.t 1) none),
 Qo 13 (.mkf 84 [(.t 12)] []),
 Qo 14 (.call 83 [(.t 9),(.t 11),(.t 13)])] [])))
noncomputable def DF:Cx:=⟨Tryz.prog,82,Tryz.f82,15,[300007,300011],[],[]⟩
theorem If:Good DF:=⟨Tryz.func82,by kernel_rfl⟩
theorem O8:DF.rs=[]:=rfl
theorem PB (hl:args.length≤15) (h:Run DF K [.code I7] (At args) E σ):AP Tryz.prog 82 args σ K:=
 AX (cx:=DF) (code:=Tryz.f82.body.getD .skip) If (by kernel_rfl) Tryz.ntmps82 hl (AZ DF _ (Ax I7) _ [] (by kernel_rfl)) h
def F7:C:=(.seq (.reg [Qm 6 1,
 Qo 7 (.len (.t 6)),
 Qo 8 (.bin .gtr (.t 7) (.c (.d (.int .i64 0))))] [0,1,2,8])
 (.cond (.t 8) (.seq (.reg [Qm 9 0,
 Qo 10 (.nck (.t 9)),
 Qo 11 (.fld (.t 10) 0),
 Qo 12 (.call 43 [(.t 11),(.c (.d (.str [40])))])] [0,1,2])
 (.seq (.reg [Qm 13 0,
 Qm 14 1,
 Qm 15 2,
 Qo 16 (.call 135 [(.t 13),(.c (.d (.str [44,32]))),(.t 14),(.t 15)])] [0])
 (.reg [Qm 17 0,
 Qo 18 (.nck (.t 17)),
 Qo 19 (.fld (.t 18) 0),
 Qo 20 (.call 43 [(.t 19),(.c (.d (.str [41])))])] [])))
 .skip))
noncomputable def Bk:Cx:=⟨Tryz.prog,83,Tryz.f83,21,[],[],[]⟩
theorem Dq:Good Bk:=⟨Tryz.func83,by kernel_rfl⟩
theorem Jg:Bk.rs=[]:=rfl
theorem KO (hl:args.length≤21) (h:Run Bk K [.code F7] (At args) E σ):AP Tryz.prog 83 args σ K:=
 AX (cx:=Bk) (code:=Tryz.f83.body.getD .skip) Dq (by kernel_rfl) Tryz.ntmps83 hl (AZ Bk _ (Ax F7) _ [] (by kernel_rfl)) h
def Kx:C:=(.seq (.reg [Qo 3 (.box (.t 1) false)] [0,3])
 (.seq (.reg [Qo 5 (.fld (.t 3) 0),
 Qo 6 (.ldl (.t 5) none)] [0,3,6])
 (.block 0 (.seq (.reg [Qo 20 (.bin .eql (.t 6) (.c (.d (.int .i64 1)))),
 Qm 19 20] [0,3,6,19])
 (.cond (.t 19) (.reg [Qm 21 0,
 Qo 22 (.nck (.t 21)),
 Qo 23 (.fld (.t 22) 0),
 Qo 24 (.call 43 [(.t 23),(.c (.d (.str [105,110,116])))])] [])
 (.seq (.reg [Qo 26 (.bin .eql (.t 6) (.c (.d (.int .i64 2)))),
 Qm 25 26] [0,3,6,25])
 (.cond (.t 25) (.reg [Qm 27 0,
 Qo 28 (.nck (.t 27)),
 Qo 29 (.fld (.t 28) 0),
 Qo 30 (.call 43 [(.t 29),(.c (.d (.str [98,111,111,108])))])] [])
 (.seq (.reg [Qo 32 (.bin .eql (.t 6) (.c (.d (.int .i64 3)))),
 Qm 31 32] [0,3,6,31])
 (.cond (.t 31) (.reg [Qm 33 0,
 Qo 34 (.nck (.t 33)),
 Qo 35 (.fld (.t 34) 0),
 Qo 36 (.call 43 [(.t 35),(.c (.d (.str [117,110,105,116])))])] [])
 (.seq (.reg [Qo 38 (.bin .eql (.t 6) (.c (.d (.int .i64 7)))),
 Qm 37 38] [0,3,6,37])
 (.cond (.t 37) (.seq (.reg [Qm 39 0,
 Qo 40 (.nck (.t 39)),
 Qo 41 (.fld (.t 40) 0),
 Qo 42 (.call 43 [(.t 41),(.c (.d (.str [97,114,114,97,121])))])] [0,3])
 (.reg [Qm 43 0,
 Qo 44 (.fld (.t 3) 2),
 Qo 45 (.ldl (.t 44) none),
 Qm 46 0,
 Qo 47 (.mkf 84 [(.t 46)] []),
 Qo 48 (.call 83 [(.t 43),(.t 45),(.t 47)])] []))
 (.seq (.reg [Qo 50 (.bin .eql (.t 6) (.c (.d (.int .i64 8)))),
 Qm 49 50] [0,3,6,49])
 (.cond (.t 49) (.seq (.reg [Qm 51 0,
 Qo 52 (.nck (.t 51)),
 Qo 53 (.fld (.t 52) 0),
 Qo 54 (.call 43 [(.t 53),(.c (.d (.str [114,101,102])))])] [0,3])
 (.reg [Qm 55 0,
 Qo 56 (.fld (.t 3) 2),
 Qo 57 (.ldl (.t 56) none),
 Qm 58 0,
 Qo 59 (.mkf 84 [(.t 58)] []),
 Qo 60 (.call 83 [(.t 55),(.t 57),(.t 59)])] []))
 (.seq (.reg [Qo 62 (.bin .eql (.t 6) (.c (.d (.int .i64 9)))),
 Qm 61 62] [0,3,61])
 (.cond (.t 61) (.seq (.reg [Qo 63 (.fld (.t 3) 2),
 Qo 64 (.ldl (.t 63) none),
 Qo 65 (.len (.t 64)),
 Qo 66 (.bin .sub (.t 65) (.c (.d (.int .i64 1)))),
 Qm 4 66] [0,3,4])
 (.seq (.reg [Qm 67 0,
 Qo 68 (.nck (.t 67)),
 Qo 69 (.fld (.t 68) 0),
 Qo 70 (.call 43 [(.t 69),(.c (.d (.str [102,110,40])))])] [0,3,4])
 (.seq (.reg [Qm 71 0,
 Qo 72 (.fld (.t 3) 2),
 Qo 73 (.ldl (.t 72) none),
 Qm 74 4,
 Qo 75 (.sls (.t 73) none (some (.t 74)) none 3),
 Qm 76 0,
 Qo 77 (.mkf 84 [(.t 76)] []),
 Qo 78 (.call 135 [(.t 71),(.c (.d (.str [44,32]))),(.t 75),(.t 77)])] [0,3,4])
 (.seq (.reg [Qm 79 0,
 Qo 80 (.nck (.t 79)),
 Qo 81 (.fld (.t 80) 0),
 Qo 82 (.call 43 [(.t 81),(.c (.d (.str [41,32,45,62,32])))])] [0,3,4])
 (.reg [Qm 83 0,
 Qo 84 (.fld (.t 3) 2),
 Qo 85 (.ldl (.t 84) none),
 Qm 86 4,
 Qo 87 (.ix (.t 85) (.t 86) 3),
 Qo 88 (.ld (.t 87) (some 3)),
 Qo 89 (.call 84 [(.t 83),(.t 88)])] [])))))
 (.seq (.reg [Qm 7 0,
 Qo 8 (.nck (.t 7)),
 Qo 9 (.fld (.t 8) 0),
 Qo 10 (.fld (.t 3) 1),
 Qo 11 (.ldl (.t 10) none),
 Qo 12 (.call 43 [(.t 9),(.t 11)])] [0,3])
 (.reg [Qm 13 0,
 Qo 14 (.fld (.t 3) 2),
 Qo 15 (.ldl (.t 14) none),
 Qm 16 0,
 Qo 17 (.mkf 84 [(.t 16)] []),
 Qo 18 (.call 83 [(.t 13),(.t 15),(.t 17)])] [])))))))))))))))))
noncomputable def ET:Cx:=⟨Tryz.prog,84,Tryz.f84,90,[300006,300045,300057,300064,300073,300085,300011,300015],[],[]⟩
theorem Br:Good ET:=⟨Tryz.func84,by kernel_rfl⟩
theorem R8:ET.rs=[]:=rfl
theorem SS (hl:args.length≤90) (h:Run ET K [.code Kx] (At args) E σ):AP Tryz.prog 84 args σ K:=
 AX (cx:=ET) (code:=Tryz.f84.body.getD .skip) Br (by kernel_rfl) Tryz.ntmps84 hl (AZ ET _ (Ax Kx) _ [] (by kernel_rfl)) h
def Rp:C:=(.seq (.reg [Qo 1 (.box (.t 0) false),
 Qo 2 (.mv (.c (.d (.int .i64 0))))] [1])
 (.seq (.block 0 (.seq (.seq (.reg [Qo 4 (.fld (.t 1) 0),
 Qo 5 (.ldl (.t 4) none),
 Qo 6 (.bin .eql (.t 5) (.c (.d (.int .i64 7)))),
 Qm 3 6] [1,3])
 (.cond (.t 3) .skip
 (.seq (.reg [Qo 7 (.fld (.t 1) 0),
 Qo 8 (.ldl (.t 7) none),
 Qo 9 (.bin .eql (.t 8) (.c (.d (.int .i64 8)))),
 Qm 3 9] [1,3])
 (.cond (.t 3) .skip
 (.seq (.reg [Qo 10 (.fld (.t 1) 0),
 Qo 11 (.ldl (.t 10) none),
 Qo 12 (.bin .eql (.t 11) (.c (.d (.int .i64 9)))),
 Qm 3 12] [1,3])
 (.cond (.t 3) .skip
 (.seq (.reg [Qo 13 (.fld (.t 1) 0),
 Qo 14 (.ldl (.t 13) none),
 Qo 15 (.bin .eql (.t 14) (.c (.d (.int .i64 10)))),
 Qm 3 15] [1,3])
 (.cond (.t 3) .skip
 (.seq (.reg [Qo 16 (.fld (.t 1) 0),
 Qo 17 (.ldl (.t 16) none),
 Qo 18 (.bin .eql (.t 17) (.c (.d (.int .i64 11)))),
 Qm 3 18] [1,3])
 (.cond (.t 3) .skip
 (.reg [Qo 19 (.fld (.t 1) 0),
 Qo 20 (.ldl (.t 19) none),
 Qo 21 (.bin .eql (.t 20) (.c (.d (.int .i64 17)))),
 Qm 3 21] [1,3])))))))))))
 (.cond (.t 3) (.seq (.reg [Qo 2 (.mv (.c (.d (.int .i64 0))))] [2])
 .ret)
 (.seq (.reg [Qo 23 (.fld (.t 1) 0),
 Qo 24 (.ldl (.t 23) none),
 Qo 25 (.bin .eql (.t 24) (.c (.d (.int .i64 13)))),
 Qm 22 25] [1,22])
 (.cond (.t 22) (.seq (.reg [Qo 26 (.fld (.t 1) 2),
 Qo 27 (.ldl (.t 26) none),
 Qo 28 (.call 138 [(.t 27)]),
 Qm 2 28] [2])
 .ret)
 (.seq (.reg [Qo 30 (.fld (.t 1) 0),
 Qo 31 (.ldl (.t 30) none),
 Qo 32 (.bin .eql (.t 31) (.c (.d (.int .i64 12)))),
 Qm 29 32] [29])
 (.cond (.t 29) (.seq (.reg [Qo 2 (.mv (.c (.d (.int .i64 4))))] [2])
 .ret)
 .skip)))))))
 (.seq (.reg [Qo 2 (.mv (.c (.d (.int .i64 5))))] [2])
 .ret)))
noncomputable def HY:Cx:=⟨Tryz.prog,87,Tryz.f87,33,[300005,300008,300011,300014,300017,300020,300024,300027,300031],[],[.t 2]⟩
theorem HK:Good HY:=⟨Tryz.func87,by kernel_rfl⟩
theorem XZ:HY.rs=[.t 2]:=rfl
theorem Yc (hl:args.length≤33) (h:Run HY K [.code Rp] (At args) E σ):AP Tryz.prog 87 args σ K:=
 AX (cx:=HY) (code:=Tryz.f87.body.getD .skip) HK (by kernel_rfl) Tryz.ntmps87 hl (AZ HY _ (Ax Rp) _ [] (by kernel_rfl)) h
def F8:C:=(.seq (.reg [Qo 3 (.box (.t 1) false)] [0,3])
 (.seq (.reg [Qm 4 0,
 Qo 5 (.nck (.t 4)),
 Qo 6 (.fld (.t 5) 0),
 Qo 7 (.call 43 [(.t 6),(.c (.d (.str [40])))])] [0,3])
 (.seq (.reg [Qm 8 0,
 Qo 9 (.ldl (.t 3) (some 6)),
 Qo 10 (.call 139 [(.t 8),(.t 9)])] [0])
 (.reg [Qm 11 0,
 Qo 12 (.nck (.t 11)),
 Qo 13 (.fld (.t 12) 0),
 Qo 14 (.call 43 [(.t 13),(.c (.d (.str [41])))])] []))))
noncomputable def Bm:Cx:=⟨Tryz.prog,88,Tryz.f88,15,[300009],[],[]⟩
theorem Fe:Good Bm:=⟨Tryz.func88,by kernel_rfl⟩
theorem Jh:Bm.rs=[]:=rfl
theorem KQ (hl:args.length≤15) (h:Run Bm K [.code F8] (At args) E σ):AP Tryz.prog 88 args σ K:=
 AX (cx:=Bm) (code:=Tryz.f88.body.getD .skip) Fe (by kernel_rfl) Tryz.ntmps88 hl (AZ Bm _ (Ax F8) _ [] (by kernel_rfl)) h
def RA:C:=(.seq (.reg [Qo 2 (.box (.t 0) true),
 Qo 3 (.box (.t 1) false)] [2,3])
 (.seq (.reg [Qo 4 (.fld (.t 3) 0),
 Qo 5 (.ldl (.t 4) none)] [2,3,5])
 (.block 0 (.seq (.seq (.reg [Qo 7 (.bin .eql (.t 5) (.c (.d (.int .i64 7)))),
 Qm 6 7] [2,3,5,6])
 (.cond (.t 6) .skip
 (.reg [Qo 8 (.bin .eql (.t 5) (.c (.d (.int .i64 8)))),
 Qm 6 8] [2,3,5,6])))
 (.cond (.t 6) (.seq (.reg [Qo 9 (.ld (.t 2) none),
 Qo 10 (.nck (.t 9)),
 Qo 11 (.fld (.t 10) 0),
 Qo 12 (.call 43 [(.t 11),(.c (.d (.str [108,101,116,32])))])] [2,3])
 (.seq (.seq (.reg [Qo 13 (.fld (.t 3) 0),
 Qo 14 (.ldl (.t 13) none),
 Qo 15 (.bin .eql (.t 14) (.c (.d (.int .i64 7))))] [2,3,15])
 (.cond (.t 15) (.reg [Qo 16 (.ld (.t 2) none),
 Qo 17 (.fld (.t 3) 1),
 Qo 18 (.ldl (.t 17) none),
 Qo 19 (.call 140 [(.t 16),(.t 18)])] [2,3])
 (.reg [Qo 20 (.ld (.t 2) none),
 Qo 21 (.fld (.t 3) 3),
 Qo 22 (.ldl (.t 21) none),
 Qo 23 (.ld (.t 2) none),
 Qo 24 (.mkf 140 [(.t 23)] []),
 Qo 25 (.call 79 [(.t 20),(.t 22),(.t 24)])] [2,3])))
 (.reg [Qo 26 (.ld (.t 2) none),
 Qo 27 (.fld (.t 3) 4),
 Qo 28 (.ldl (.t 27) none),
 Qo 29 (.ix (.t 28) (.c (.d (.int .i64 0))) 6),
 Qo 30 (.ld (.t 29) (some 6)),
 Qo 31 (.fld (.t 3) 4),
 Qo 32 (.ldl (.t 31) none),
 Qo 33 (.ix (.t 32) (.c (.d (.int .i64 1))) 6),
 Qo 34 (.ld (.t 33) (some 6)),
 Qo 35 (.call 141 [(.t 26),(.c (.d (.str [32,61,32]))),(.t 30),(.c (.d (.str [32,105,110,32]))),(.t 34),(.c (.d (.str [])))])] [])))
 (.seq (.reg [Qo 37 (.bin .eql (.t 5) (.c (.d (.int .i64 9)))),
 Qm 36 37] [2,3,5,36])
 (.cond (.t 36) (.seq (.reg [Qo 38 (.ld (.t 2) none),
 Qo 39 (.fld (.t 3) 4),
 Qo 40 (.ldl (.t 39) none),
 Qo 41 (.ix (.t 40) (.c (.d (.int .i64 0))) 6),
 Qo 42 (.ld (.t 41) (some 6)),
 Qo 43 (.fld (.t 3) 4),
 Qo 44 (.ldl (.t 43) none),
 Qo 45 (.ix (.t 44) (.c (.d (.int .i64 1))) 6),
 Qo 46 (.ld (.t 45) (some 6)),
 Qo 47 (.call 141 [(.t 38),(.c (.d (.str [105,102,32]))),(.t 42),(.c (.d (.str [32,116,104,101,110,32]))),(.t 46),(.c (.d (.str [32,101,108,115,101,32])))])] [2,3])
 (.reg [Qo 48 (.ld (.t 2) none),
 Qo 49 (.fld (.t 3) 4),
 Qo 50 (.ldl (.t 49) none),
 Qo 51 (.ix (.t 50) (.c (.d (.int .i64 2))) 6),
 Qo 52 (.ld (.t 51) (some 6)),
 Qo 53 (.call 139 [(.t 48),(.t 52)])] []))
 (.seq (.reg [Qo 55 (.bin .eql (.t 5) (.c (.d (.int .i64 10)))),
 Qm 54 55] [2,3,5,54])
 (.cond (.t 54) (.seq (.reg [Qo 56 (.ld (.t 2) none),
 Qo 57 (.nck (.t 56)),
 Qo 58 (.fld (.t 57) 0),
 Qo 59 (.call 43 [(.t 58),(.c (.d (.str [109,97,116,99,104,32])))])] [2,3])
 (.seq (.reg [Qo 60 (.ld (.t 2) none),
 Qo 61 (.fld (.t 3) 4),
 Qo 62 (.ldl (.t 61) none),
 Qo 63 (.ix (.t 62) (.c (.d (.int .i64 0))) 6),
 Qo 64 (.ld (.t 63) (some 6)),
 Qo 65 (.call 139 [(.t 60),(.t 64)])] [2,3])
 (.seq (.reg [Qo 66 (.ld (.t 2) none),
 Qo 67 (.nck (.t 66)),
 Qo 68 (.fld (.t 67) 0),
 Qo 69 (.call 43 [(.t 68),(.c (.d (.str [32,119,105,116,104,32])))])] [2,3])
 (.seq (.reg [Qo 70 (.ld (.t 2) none),
 Qo 71 (.fld (.t 3) 5),
 Qo 72 (.ldl (.t 71) none),
 Qo 73 (.mkf 143 [] [(.t 2)]),
 Qo 74 (.call 142 [(.t 70),(.c (.d (.str [32,124,32]))),(.t 72),(.t 73)])] [2])
 (.reg [Qo 75 (.ld (.t 2) none),
 Qo 76 (.nck (.t 75)),
 Qo 77 (.fld (.t 76) 0),
 Qo 78 (.call 43 [(.t 77),(.c (.d (.str [32,101,110,100])))])] [])))))
 (.seq (.reg [Qo 80 (.bin .eql (.t 5) (.c (.d (.int .i64 11)))),
 Qm 79 80] [2,3,5,79])
 (.cond (.t 79) (.seq (.FZ (.one (Qo 84 (.fld (.t 3) 3))
 (.one (Qo 85 (.ldl (.t 84) none))
 (.alt (Qo 81 (.ld (.t 2) none))
 (.one (Qo 82 (.nck (.t 81)))
 (.one (Qo 83 (.fld (.t 82) 0))
 (.one (Qo 86 (.call 44 [(.t 85),(.c (.d (.str [44,32])))]))
 (.one (Qo 87 (.bin .add (.c (.d (.str [102,110,40]))) (.t 86)))
 (.one (Qo 88 (.bin .add (.t 87) (.c (.d (.str [41,32,45,62,32])))))
 (.one (Qo 89 (.call 43 [(.t 83),(.t 88)]))
 .done))))))
 (.alt (Qo 86 (.call 44 [(.t 85),(.c (.d (.str [44,32])))]))
 (.one (Qo 81 (.ld (.t 2) none))
 (.one (Qo 82 (.nck (.t 81)))
 (.one (Qo 83 (.fld (.t 82) 0))
 (.one (Qo 87 (.bin .add (.c (.d (.str [102,110,40]))) (.t 86)))
 (.one (Qo 88 (.bin .add (.t 87) (.c (.d (.str [41,32,45,62,32])))))
 (.one (Qo 89 (.call 43 [(.t 83),(.t 88)]))
 .done))))))
 .done)))) [2,3])
 (.reg [Qo 90 (.ld (.t 2) none),
 Qo 91 (.fld (.t 3) 4),
 Qo 92 (.ldl (.t 91) none),
 Qo 93 (.ix (.t 92) (.c (.d (.int .i64 0))) 6),
 Qo 94 (.ld (.t 93) (some 6)),
 Qo 95 (.call 139 [(.t 90),(.t 94)])] []))
 (.seq (.reg [Qo 97 (.bin .eql (.t 5) (.c (.d (.int .i64 17)))),
 Qm 96 97] [2,3,96])
 (.cond (.t 96) (.seq (.reg [Qo 98 (.ld (.t 2) none),
 Qo 99 (.nck (.t 98)),
 Qo 100 (.fld (.t 99) 0),
 Qo 101 (.call 43 [(.t 100),(.c (.d (.str [116,114,121,32])))])] [2,3])
 (.seq (.reg [Qo 102 (.ld (.t 2) none),
 Qo 103 (.fld (.t 3) 4),
 Qo 104 (.ldl (.t 103) none),
 Qo 105 (.ix (.t 104) (.c (.d (.int .i64 0))) 6),
 Qo 106 (.ld (.t 105) (some 6)),
 Qo 107 (.call 139 [(.t 102),(.t 106)])] [2,3])
 (.seq (.reg [Qo 108 (.ld (.t 2) none),
 Qo 109 (.nck (.t 108)),
 Qo 110 (.fld (.t 109) 0),
 Qo 111 (.call 43 [(.t 110),(.c (.d (.str [32,99,97,116,99,104,32])))])] [2,3])
 (.seq (.reg [Qo 112 (.ld (.t 2) none),
 Qo 113 (.fld (.t 3) 1),
 Qo 114 (.ldl (.t 113) none),
 Qo 115 (.call 140 [(.t 112),(.t 114)])] [2,3])
 (.seq (.reg [Qo 116 (.ld (.t 2) none),
 Qo 117 (.nck (.t 116)),
 Qo 118 (.fld (.t 117) 0),
 Qo 119 (.call 43 [(.t 118),(.c (.d (.str [32,45,62,32])))])] [2,3])
 (.seq (.reg [Qo 120 (.ld (.t 2) none),
 Qo 121 (.fld (.t 3) 4),
 Qo 122 (.ldl (.t 121) none),
 Qo 123 (.ix (.t 122) (.c (.d (.int .i64 1))) 6),
 Qo 124 (.ld (.t 123) (some 6)),
 Qo 125 (.call 139 [(.t 120),(.t 124)])] [2])
 (.reg [Qo 126 (.ld (.t 2) none),
 Qo 127 (.nck (.t 126)),
 Qo 128 (.fld (.t 127) 0),
 Qo 129 (.call 43 [(.t 128),(.c (.d (.str [32,101,110,100])))])] [])))))))
 .skip)))))))))))))
def Rc:List (List Nat×PT):=[([2,3],.done),([2,3,5],.done),([2,3,5,6],.done),([2,3,5,6],.done),([2,3],.done),([2,3,15],.done),([2,3],.done),([2,3],.done),([],.done),([2,3,5,36],.done),([2,3],.done),([],.done),([2,3,5,54],.done),([2,3],.done),([2,3],.done),([2,3],.done),([2],.done),([],.done),([2,3,5,79],.done),([2,3],(.one 3 (.one 4 (.alt 0 (.one 1 (.one 2 (.one 5 (.one 6 (.one 7 (.one 8 .done)))))) (.alt 5 (.one 0 (.one 1 (.one 2 (.one 6 (.one 7 (.one 8 .done)))))) .done))))),([],.done),([2,3,96],.done),([2,3],.done),([2,3],.done),([2,3],.done),([2,3],.done),([2,3],.done),([2],.done),([],.done)]
noncomputable def Dj:Cx:=⟨Tryz.prog,89,Tryz.f89,130,[2,300005,300014,300018,300022,300028,300032,300040,300044,300050,300062,300072,300085,300092,300104,300114,300122],[],[]⟩
theorem CG:Good Dj:=⟨Tryz.func89,by kernel_rfl⟩
theorem Q6:Dj.rs=[]:=rfl
theorem RL (hl:args.length≤130) (h:Run Dj K [.code RA] (At args) E σ):AP Tryz.prog 89 args σ K:=
 AX (cx:=Dj) (code:=Tryz.f89.body.getD .skip) CG (by kernel_rfl) Tryz.ntmps89 hl (AZ Dj _ Rc _ [] (by kernel_rfl)) h
def JC:C:=(.seq (.reg [Qo 2 (.mv (.c (.d (.int .i64 0)))),
 Qo 3 (.mv (.c (.d (.int .i64 0))))] [0])
 (.seq (.reg [Qm 5 0,
 Qo 6 (.call 138 [(.t 5)]),
 Qm 4 6] [4])
 (.seq (.seq (.reg [Qm 7 4,
 Qo 8 (.bin .eql (.t 7) (.c (.d (.int .i64 1))))] [4,8])
 (.cond (.t 8) (.seq (.reg [Qo 2 (.mv (.c (.d (.int .i64 2)))),
 Qo 3 (.mv (.c (.d (.int .i64 2))))] [2,3])
 .ret)
 .skip))
 (.seq (.reg [Qm 9 4,
 Qm 10 4,
 Qo 11 (.bin .add (.t 10) (.c (.d (.int .i64 1)))),
 Qm 2 9,
 Qm 3 11] [2,3])
 .ret))))
noncomputable def DW:Cx:=⟨Tryz.prog,90,Tryz.f90,12,[],[],[.t 2,.t 3]⟩
theorem JQ:Good DW:=⟨Tryz.func90,by kernel_rfl⟩
theorem PV:DW.rs=[.t 2,.t 3]:=rfl
theorem QG (hl:args.length≤12) (h:Run DW K [.code JC] (At args) E σ):AP Tryz.prog 90 args σ K:=
 AX (cx:=DW) (code:=Tryz.f90.body.getD .skip) JQ (by kernel_rfl) Tryz.ntmps90 hl (AZ DW _ (Ax JC) _ [] (by kernel_rfl)) h
def Jq:C:=(.seq (.reg [Qm 4 0,
 Qo 5 (.nck (.t 4)),
 Qo 6 (.fld (.t 5) 0),
 Qo 7 (.call 43 [(.t 6),(.c (.d (.str [40])))])] [0,1])
 (.seq (.reg [Qm 8 0,
 Qm 9 1,
 Qm 10 0,
 Qo 11 (.mkf 139 [(.t 10)] []),
 Qo 12 (.call 144 [(.t 8),(.c (.d (.str [44,32]))),(.t 9),(.t 11)])] [0])
 (.reg [Qm 13 0,
 Qo 14 (.nck (.t 13)),
 Qo 15 (.fld (.t 14) 0),
 Qo 16 (.call 43 [(.t 15),(.c (.d (.str [41])))])] [])))
noncomputable def Di:Cx:=⟨Tryz.prog,92,Tryz.f92,17,[],[],[]⟩
theorem Jz:Good Di:=⟨Tryz.func92,by kernel_rfl⟩
theorem Q5:Di.rs=[]:=rfl
theorem RK (hl:args.length≤17) (h:Run Di K [.code Jq] (At args) E σ):AP Tryz.prog 92 args σ K:=
 AX (cx:=Di) (code:=Tryz.f92.body.getD .skip) Jz (by kernel_rfl) Tryz.ntmps92 hl (AZ Di _ (Ax Jq) _ [] (by kernel_rfl)) h
def Js:C:=(.seq (.reg [Qo 3 (.box (.t 1) false)] [0,3])
 (.seq (.reg [Qo 6 (.fld (.t 3) 0),
 Qo 7 (.ldl (.t 6) none)] [0,3,7])
 (.block 0 (.seq (.reg [Qo 21 (.bin .eql (.t 7) (.c (.d (.int .i64 1)))),
 Qm 20 21] [0,3,7,20])
 (.cond (.t 20) (.reg [Qm 22 0,
 Qo 23 (.nck (.t 22)),
 Qo 24 (.fld (.t 23) 0),
 Qo 25 (.call 43 [(.t 24),(.c (.d (.str [40,41])))])] [])
 (.seq (.reg [Qo 27 (.bin .eql (.t 7) (.c (.d (.int .i64 2)))),
 Qm 26 27] [0,3,7,26])
 (.cond (.t 26) (.reg [Qm 28 0,
 Qo 29 (.nck (.t 28)),
 Qo 30 (.fld (.t 29) 0),
 Qo 31 (.fld (.t 3) 2),
 Qo 32 (.ldl (.t 31) none),
 Qo 33 (.bin .eql (.t 32) (.c (.d (.int .i64 1)))),
 Qo 34 (.call 145 [(.t 33)]),
 Qo 35 (.call 43 [(.t 30),(.t 34)])] [])
 (.seq (.reg [Qo 37 (.bin .eql (.t 7) (.c (.d (.int .i64 3)))),
 Qm 36 37] [0,3,7,36])
 (.cond (.t 36) (.reg [Qm 38 0,
 Qo 39 (.nck (.t 38)),
 Qo 40 (.fld (.t 39) 0),
 Qo 41 (.fld (.t 3) 2),
 Qo 42 (.ldl (.t 41) none),
 Qo 43 (.call 146 [(.t 42),(.c (.d (.int .i64 10)))]),
 Qo 44 (.call 43 [(.t 40),(.t 43)])] [])
 (.seq (.reg [Qo 46 (.bin .eql (.t 7) (.c (.d (.int .i64 5)))),
 Qm 45 46] [0,3,7,45])
 (.cond (.t 45) (.reg [Qm 47 0,
 Qo 48 (.fld (.t 3) 4),
 Qo 49 (.ldl (.t 48) none),
 Qo 50 (.call 92 [(.t 47),(.t 49)])] [])
 (.seq (.reg [Qo 52 (.bin .eql (.t 7) (.c (.d (.int .i64 14)))),
 Qm 51 52] [0,3,7,51])
 (.cond (.t 51) (.seq (.reg [Qo 54 (.fld (.t 3) 2),
 Qo 55 (.ldl (.t 54) none),
 Qo 56 (.call 147 [(.t 55)]),
 Qm 53 56,
 Qo 57 (.ext (.t 53) 0),
 Qo 58 (.ext (.t 53) 1),
 Qm 4 57,
 Qm 5 58] [0,3,4])
 (.seq (.reg [Qm 59 0,
 Qo 60 (.nck (.t 59)),
 Qo 61 (.fld (.t 60) 0),
 Qm 62 4,
 Qo 63 (.call 43 [(.t 61),(.t 62)])] [0,3])
 (.reg [Qm 64 0,
 Qo 65 (.fld (.t 3) 4),
 Qo 66 (.ldl (.t 65) none),
 Qo 67 (.call 92 [(.t 64),(.t 66)])] [])))
 (.seq (.reg [Qo 69 (.bin .eql (.t 7) (.c (.d (.int .i64 16)))),
 Qm 68 69] [0,3,7,68])
 (.cond (.t 68) (.seq (.reg [Qm 70 0,
 Qo 71 (.nck (.t 70)),
 Qo 72 (.fld (.t 71) 0),
 Qo 73 (.call 43 [(.t 72),(.c (.d (.str [114,97,105,115,101])))])] [0,3])
 (.reg [Qm 74 0,
 Qo 75 (.fld (.t 3) 4),
 Qo 76 (.ldl (.t 75) none),
 Qo 77 (.call 92 [(.t 74),(.t 76)])] []))
 (.seq (.reg [Qo 79 (.bin .eql (.t 7) (.c (.d (.int .i64 15)))),
 Qm 78 79] [0,3,78])
 (.cond (.t 78) (.reg [Qm 80 0,
 Qo 81 (.nck (.t 80)),
 Qo 82 (.fld (.t 81) 0),
 Qo 83 (.fld (.t 3) 2),
 Qo 84 (.ldl (.t 83) none),
 Qo 85 (.call 146 [(.t 84),(.c (.d (.int .i64 10)))]),
 Qo 86 (.bin .add (.c (.d (.str [116,105,99,107,40]))) (.t 85)),
 Qo 87 (.bin .add (.t 86) (.c (.d (.str [41])))),
 Qo 88 (.call 43 [(.t 82),(.t 87)])] [])
 (.seq (.reg [Qm 8 0,
 Qo 9 (.nck (.t 8)),
 Qo 10 (.fld (.t 9) 0),
 Qo 11 (.fld (.t 3) 1),
 Qo 12 (.ldl (.t 11) none),
 Qo 13 (.call 43 [(.t 10),(.t 12)])] [0,3])
 (.reg [Qm 14 0,
 Qo 15 (.fld (.t 3) 4),
 Qo 16 (.ldl (.t 15) none),
 Qm 17 0,
 Qo 18 (.mkf 139 [(.t 17)] []),
 Qo 19 (.call 148 [(.t 14),(.t 16),(.t 18)])] [])))))))))))))))))))
noncomputable def Dl:Cx:=⟨Tryz.prog,93,Tryz.f93,89,[300007,300032,300042,300049,300055,300066,300076,300084,300012,300016],[],[]⟩
theorem BQ:Good Dl:=⟨Tryz.func93,by kernel_rfl⟩
theorem Q8:Dl.rs=[]:=rfl
theorem RO (hl:args.length≤89) (h:Run Dl K [.code Js] (At args) E σ):AP Tryz.prog 93 args σ K:=
 AX (cx:=Dl) (code:=Tryz.f93.body.getD .skip) BQ (by kernel_rfl) Tryz.ntmps93 hl (AZ Dl _ (Ax Js) _ [] (by kernel_rfl)) h
def YN:C:=(.seq (.reg [Qo 1 (.box (.t 0) false),
 Qo 2 (.mv (.c (.d (.int .i64 0))))] [1])
 (.seq (.seq (.reg [Qo 3 (.fld (.t 1) 0),
 Qo 4 (.ldl (.t 3) none)] [1,4])
 (.block 0 (.seq (.seq (.reg [Qo 6 (.bin .eql (.t 4) (.c (.d (.int .i64 7)))),
 Qm 5 6] [1,4,5])
 (.cond (.t 5) .skip
 (.seq (.reg [Qo 7 (.bin .eql (.t 4) (.c (.d (.int .i64 8)))),
 Qm 5 7] [1,4,5])
 (.cond (.t 5) .skip
 (.seq (.reg [Qo 8 (.bin .eql (.t 4) (.c (.d (.int .i64 9)))),
 Qm 5 8] [1,4,5])
 (.cond (.t 5) .skip
 (.seq (.reg [Qo 9 (.bin .eql (.t 4) (.c (.d (.int .i64 10)))),
 Qm 5 9] [1,4,5])
 (.cond (.t 5) .skip
 (.seq (.reg [Qo 10 (.bin .eql (.t 4) (.c (.d (.int .i64 11)))),
 Qm 5 10] [1,4,5])
 (.cond (.t 5) .skip
 (.reg [Qo 11 (.bin .eql (.t 4) (.c (.d (.int .i64 17)))),
 Qm 5 11] [1,4,5])))))))))))
 (.cond (.t 5) (.seq (.reg [Qo 2 (.mv (.c (.d (.int .i64 0))))] [2])
 .ret)
 (.seq (.reg [Qo 13 (.bin .eql (.t 4) (.c (.d (.int .i64 12)))),
 Qm 12 13] [1,4,12])
 (.cond (.t 12) (.seq (.reg [Qo 2 (.mv (.c (.d (.int .i64 4))))] [2])
 .ret)
 (.seq (.reg [Qo 15 (.bin .eql (.t 4) (.c (.d (.int .i64 13)))),
 Qm 14 15] [1,14])
 (.cond (.t 14) (.seq (.seq (.reg [Qo 16 (.fld (.t 1) 2),
 Qo 17 (.ldl (.t 16) none),
 Qo 18 (.bin .geq (.t 17) (.c (.d (.int .i64 6))))] [1,18])
 (.cond (.t 18) (.seq (.reg [Qo 2 (.mv (.c (.d (.int .i64 1))))] [2])
 .ret)
 .skip))
 (.seq (.seq (.reg [Qo 19 (.fld (.t 1) 2),
 Qo 20 (.ldl (.t 19) none),
 Qo 21 (.bin .leq (.t 20) (.c (.d (.int .i64 2))))] [21])
 (.cond (.t 21) (.seq (.reg [Qo 2 (.mv (.c (.d (.int .i64 2))))] [2])
 .ret)
 .skip))
 (.seq (.reg [Qo 2 (.mv (.c (.d (.int .i64 3))))] [2])
 .ret)))
 .skip))))))))
 (.seq (.reg [Qo 2 (.mv (.c (.d (.int .i64 5))))] [2])
 .ret)))
noncomputable def Nd:Cx:=⟨Tryz.prog,94,Tryz.f94,22,[300004,300017,300020],[],[.t 2]⟩
theorem NC:Good Nd:=⟨Tryz.func94,by kernel_rfl⟩
theorem iR:Nd.rs=[.t 2]:=rfl
theorem kR (hl:args.length≤22) (h:Run Nd K [.code YN] (At args) E σ):AP Tryz.prog 94 args σ K:=
 AX (cx:=Nd) (code:=Tryz.f94.body.getD .skip) NC (by kernel_rfl) Tryz.ntmps94 hl (AZ Nd _ (Ax YN) _ [] (by kernel_rfl)) h
def YP:C:=(.seq (.reg [Qo 2 (.box (.t 0) false),
 Qo 4 (.mv (.c (.d (.str []))))] [1,2])
 (.seq (.seq (.reg [Qo 5 (.ldl (.t 2) (some 6)),
 Qo 6 (.call 94 [(.t 5)]),
 Qm 7 1,
 Qo 8 (.bin .lss (.t 6) (.t 7))] [2,8])
 (.cond (.t 8) (.seq (.reg [Qo 9 (.ldl (.t 2) (some 6)),
 Qo 10 (.call 49 [(.t 9)]),
 Qo 11 (.bin .add (.c (.d (.str [40]))) (.t 10)),
 Qo 12 (.bin .add (.t 11) (.c (.d (.str [41])))),
 Qm 4 12] [4])
 .ret)
 .skip))
 (.seq (.reg [Qo 13 (.ldl (.t 2) (some 6)),
 Qo 14 (.call 49 [(.t 13)]),
 Qm 4 14] [4])
 .ret)))
noncomputable def Nf:Cx:=⟨Tryz.prog,95,Tryz.f95,15,[300005,300009,300013],[],[.t 4]⟩
theorem U3:Good Nf:=⟨Tryz.func95,by kernel_rfl⟩
theorem iS:Nf.rs=[.t 4]:=rfl
theorem kS (hl:args.length≤15) (h:Run Nf K [.code YP] (At args) E σ):AP Tryz.prog 95 args σ K:=
 AX (cx:=Nf) (code:=Tryz.f95.body.getD .skip) U3 (by kernel_rfl) Tryz.ntmps95 hl (AZ Nf _ (Ax YP) _ [] (by kernel_rfl)) h
def YO:C:=(.seq (.seq (.reg [Qm 18 0,
 Qo 19 (.bin .gtr (.t 18) (.c (.d (.int .i64 0))))] [0,3,19])
 (.cond (.t 19) .skip
 (.exit 0)))
 (.seq (.block 1 (.reg [Qm 22 0,
 Qo 23 (.bin .rem (.t 22) (.c (.d (.int .i64 10)))),
 Qo 24 (.bin .add (.c (.d (.int .i64 48))) (.t 23)),
 Qo 25 (.conv .u8 (.t 24)),
 Qo 26 (.bsl 1 1 [(.d (.int .u8 0))] [(0,1,(.t 25))]),
 Qo 27 (.ex .b2s [(.t 26)]),
 Qm 28 3,
 Qo 29 (.bin .add (.t 27) (.t 28)),
 Qm 3 29] [0,3]))
 (.reg [Qm 20 0,
 Qo 21 (.bin .quo (.t 20) (.c (.d (.int .i64 10)))),
 Qm 0 21] [0,3])))
def Wb:C:=(.seq (.reg [Qo 2 (.mv (.c (.d (.str []))))] [0])
 (.seq (.seq (.reg [Qm 4 0,
 Qo 5 (.bin .lss (.t 4) (.c (.d (.int .i64 0))))] [0,5])
 (.cond (.t 5) (.seq (.reg [Qm 6 0,
 Qo 7 (.un .neg (.t 6)),
 Qo 8 (.call 97 [(.t 7)]),
 Qo 9 (.bin .add (.c (.d (.str [45]))) (.t 8)),
 Qm 2 9] [2])
 .ret)
 .skip))
 (.seq (.reg [Qm 10 0,
 Qo 11 (.bin .rem (.t 10) (.c (.d (.int .i64 10)))),
 Qo 12 (.bin .add (.c (.d (.int .i64 48))) (.t 11)),
 Qo 13 (.conv .u8 (.t 12)),
 Qo 14 (.bsl 1 1 [(.d (.int .u8 0))] [(0,1,(.t 13))]),
 Qo 15 (.ex .b2s [(.t 14)]),
 Qm 3 15] [0,3])
 (.seq (.seq (.reg [Qm 16 0,
 Qo 17 (.bin .quo (.t 16) (.c (.d (.int .i64 10)))),
 Qm 0 17] [0,3])
 (.block 0 (.loop YO)))
 (.seq (.reg [Qm 30 3,
 Qm 2 30] [2])
 .ret)))))
noncomputable def L4:Cx:=⟨Tryz.prog,97,Tryz.f97,31,[],[],[.t 2]⟩
theorem Ry:Good L4:=⟨Tryz.func97,by kernel_rfl⟩
theorem eP:L4.rs=[.t 2]:=rfl
theorem Wm (hl:args.length≤31) (h:Run L4 K [.code Wb] (At args) E σ):AP Tryz.prog 97 args σ K:=
 AX (cx:=L4) (code:=Tryz.f97.body.getD .skip) Ry (by kernel_rfl) Tryz.ntmps97 hl (AZ L4 _ (Ax Wb) _ [] (by kernel_rfl)) h
def YR:C:=(.seq (.reg [Qo 2 (.mv (.c (.d (.str []))))] [0])
 (.seq (.seq (.reg [Qm 3 0,
 Qo 4 (.bin .eql (.t 3) (.c (.d (.str []))))] [0,4])
 (.cond (.t 4) (.seq (.reg [Qo 2 (.mv (.c (.d (.str [95]))))] [2])
 .ret)
 .skip))
 (.seq (.reg [Qm 5 0,
 Qm 2 5] [2])
 .ret)))
noncomputable def Ng:Cx:=⟨Tryz.prog,98,Tryz.f98,6,[],[],[.t 2]⟩
theorem U4:Good Ng:=⟨Tryz.func98,by kernel_rfl⟩
theorem iT:Ng.rs=[.t 2]:=rfl
theorem kT (hl:args.length≤6) (h:Run Ng K [.code YR] (At args) E σ):AP Tryz.prog 98 args σ K:=
 AX (cx:=Ng) (code:=Tryz.f98.body.getD .skip) U4 (by kernel_rfl) Tryz.ntmps98 hl (AZ Ng _ (Ax YR) _ [] (by kernel_rfl)) h
def Zz:C:=(.seq (.seq (.reg [Qm 5 4,
 Qm 6 0,
 Qo 7 (.len (.t 6)),
 Qo 8 (.bin .lss (.t 5) (.t 7))] [0,3,4,8])
 (.cond (.t 8) .skip
 (.exit 0)))
 (.seq (.block 1 (.reg [Qm 11 3,
 Qm 12 0,
 Qm 13 4,
 Qo 14 (.ix (.t 12) (.t 13) 1),
 Qo 15 (.ld (.t 14) none),
 Qo 16 (.call 98 [(.t 15)]),
 Qo 17 (.bsl 1 1 [(.d (.str []))] [(0,1,(.t 16))]),
 Qo 18 (.app 9 1 16 (.t 11) (.t 17)),
 Qm 3 18] [0,3,4]))
 (.reg [Qm 9 4,
 Qo 10 (.bin .add (.t 9) (.c (.d (.int .i64 1)))),
 Qm 4 10] [0,3,4])))
def YM:C:=(.seq (.reg [Qo 2 (.mv (.c (.d (.str []))))] [0])
 (.seq (.reg [Qo 3 (.mv (.c .AY))] [0,3])
 (.seq (.seq (.reg [Qo 4 (.mv (.c (.d (.int .i64 0))))] [0,3,4])
 (.block 0 (.loop Zz)))
 (.seq (.reg [Qm 19 3,
 Qo 20 (.call 47 [(.t 19)]),
 Qm 2 20] [2])
 .ret))))
noncomputable def Nc:Cx:=⟨Tryz.prog,99,Tryz.f99,21,[],[],[.t 2]⟩
theorem Y5:Good Nc:=⟨Tryz.func99,by kernel_rfl⟩
theorem iQ:Nc.rs=[.t 2]:=rfl
theorem kQ (hl:args.length≤21) (h:Run Nc K [.code YM] (At args) E σ):AP Tryz.prog 99 args σ K:=
 AX (cx:=Nc) (code:=Tryz.f99.body.getD .skip) Y5 (by kernel_rfl) Tryz.ntmps99 hl (AZ Nc _ (Ax YM) _ [] (by kernel_rfl)) h
def Lf:C:=(.seq (.reg [Qo 13 (.bin .lss (.t 12) (.t 11))] [0,1,3,10,11,12,13])
 (.seq (.cond (.t 13) .skip
 (.exit 0))
 (.seq (.block 1 (.seq (.reg [Qm 14 12,
 Qo 15 (.ix (.t 10) (.t 12) 1),
 Qo 16 (.ld (.t 15) none),
 Qm 8 14,
 Qm 9 16] [0,1,3,8,9,10,11,12])
 (.seq (.seq (.reg [Qm 17 8,
 Qo 18 (.bin .gtr (.t 17) (.c (.d (.int .i64 0))))] [0,1,3,9,10,11,12,18])
 (.cond (.t 18) (.reg [Qm 19 0,
 Qo 20 (.nck (.t 19)),
 Qo 21 (.fld (.t 20) 0),
 Qm 22 1,
 Qo 23 (.call 43 [(.t 21),(.t 22)])] [0,1,3,9,10,11,12])
 .skip))
 (.reg [Qm 24 3,
 Qm 25 9,
 Qo 26 (.EY (.t 24) [(.t 25)])] [0,1,3,10,11,12]))))
 (.reg [Qo 27 (.bin .add (.t 12) (.c (.d (.int .i64 1)))),
 Qm 12 27] [0,1,3,10,11,12]))))
def Ha:C:=(.seq (.reg [Qm 10 2,
 Qo 11 (.len (.t 10)),
 Qo 12 (.mv (.c (.d (.int .i64 0))))] [0,1,3,10,11,12])
 (.block 0 (.loop Lf)))
noncomputable def Ce:Cx:=⟨Tryz.prog,134,Tryz.f134,28,[],[],[]⟩
theorem Hd:Good Ce:=⟨Tryz.func134,by kernel_rfl⟩
theorem NZ:Ce.rs=[]:=rfl
theorem Nq (hl:args.length≤28) (h:Run Ce K [.code Ha] (At args) E σ):AP Tryz.prog 134 args σ K:=
 AX (cx:=Ce) (code:=Tryz.f134.body.getD .skip) Hd (by kernel_rfl) Tryz.ntmps134 hl (AZ Ce _ (Ax Ha) _ [] (by kernel_rfl)) h
def IT:C:=(.seq (.reg [Qo 13 (.bin .lss (.t 12) (.t 11))] [0,1,3,10,11,12,13])
 (.seq (.cond (.t 13) .skip
 (.exit 0))
 (.seq (.block 1 (.seq (.reg [Qm 14 12,
 Qo 15 (.ix (.t 10) (.t 12) 3),
 Qo 16 (.ld (.t 15) (some 3)),
 Qo 9 (.al [(.d (.int .i64 0)),(.d (.str [])),.AY] false),
 Qm 8 14,
 ⟨none,.st (.t 9) (.t 16) 3,none⟩] [0,1,3,8,9,10,11,12])
 (.seq (.seq (.reg [Qm 17 8,
 Qo 18 (.bin .gtr (.t 17) (.c (.d (.int .i64 0))))] [0,1,3,9,10,11,12,18])
 (.cond (.t 18) (.reg [Qm 19 0,
 Qo 20 (.nck (.t 19)),
 Qo 21 (.fld (.t 20) 0),
 Qm 22 1,
 Qo 23 (.call 43 [(.t 21),(.t 22)])] [0,1,3,9,10,11,12])
 .skip))
 (.reg [Qm 24 3,
 Qo 25 (.ldl (.t 9) (some 3)),
 Qo 26 (.EY (.t 24) [(.t 25)])] [0,1,3,10,11,12]))))
 (.reg [Qo 27 (.bin .add (.t 12) (.c (.d (.int .i64 1)))),
 Qm 12 27] [0,1,3,10,11,12]))))
def F3:C:=(.seq (.reg [Qm 10 2,
 Qo 11 (.len (.t 10)),
 Qo 12 (.mv (.c (.d (.int .i64 0))))] [0,1,3,10,11,12])
 (.block 0 (.loop IT)))
noncomputable def Bh:Cx:=⟨Tryz.prog,135,Tryz.f135,28,[300025],[],[]⟩
theorem F4:Good Bh:=⟨Tryz.func135,by kernel_rfl⟩
theorem J1:Bh.rs=[]:=rfl
theorem Jd (hl:args.length≤28) (h:Run Bh K [.code F3] (At args) E σ):AP Tryz.prog 135 args σ K:=
 AX (cx:=Bh) (code:=Tryz.f135.body.getD .skip) F4 (by kernel_rfl) Tryz.ntmps135 hl (AZ Bh _ (Ax F3) _ [] (by kernel_rfl)) h
def Jr:C:=(.seq (.reg [Qo 3 (.box (.t 1) false)] [0,3])
 (.reg [Qm 4 0,
 Qo 5 (.ldl (.t 3) (some 6)),
 Qo 6 (.call 45 [(.t 4),(.t 5),(.c (.d (.int .i64 0)))])] []))
noncomputable def Dk:Cx:=⟨Tryz.prog,139,Tryz.f139,7,[300005],[],[]⟩
theorem KA:Good Dk:=⟨Tryz.func139,by kernel_rfl⟩
theorem Q7:Dk.rs=[]:=rfl
theorem RN (hl:args.length≤7) (h:Run Dk K [.code Jr] (At args) E σ):AP Tryz.prog 139 args σ K:=
 AX (cx:=Dk) (code:=Tryz.f139.body.getD .skip) KA (by kernel_rfl) Tryz.ntmps139 hl (AZ Dk _ (Ax Jr) _ [] (by kernel_rfl)) h
def Jn:C:=(.seq (.seq (.reg [Qm 4 1,
 Qo 5 (.bin .eql (.t 4) (.c (.d (.str []))))] [0,1,5])
 (.cond (.t 5) (.reg [Qo 1 (.mv (.c (.d (.str [95]))))] [0,1])
 .skip))
 (.reg [Qm 6 0,
 Qo 7 (.nck (.t 6)),
 Qo 8 (.fld (.t 7) 0),
 Qm 9 1,
 Qo 10 (.call 43 [(.t 8),(.t 9)])] []))
noncomputable def Df:Cx:=⟨Tryz.prog,140,Tryz.f140,11,[],[],[]⟩
theorem Gl:Good Df:=⟨Tryz.func140,by kernel_rfl⟩
theorem Q2:Df.rs=[]:=rfl
theorem RH (hl:args.length≤11) (h:Run Df K [.code Jn] (At args) E σ):AP Tryz.prog 140 args σ K:=
 AX (cx:=Df) (code:=Tryz.f140.body.getD .skip) Gl (by kernel_rfl) Tryz.ntmps140 hl (AZ Df _ (Ax Jn) _ [] (by kernel_rfl)) h
def JJ:C:=(.seq (.reg [Qo 8 (.box (.t 2) false),
 Qo 10 (.box (.t 4) false)] [0,1,3,5,8,10])
 (.seq (.reg [Qm 12 0,
 Qo 13 (.nck (.t 12)),
 Qo 14 (.fld (.t 13) 0),
 Qm 15 1,
 Qo 16 (.call 43 [(.t 14),(.t 15)])] [0,3,5,8,10])
 (.seq (.reg [Qm 17 0,
 Qo 18 (.ldl (.t 8) (some 6)),
 Qo 19 (.call 139 [(.t 17),(.t 18)])] [0,3,5,10])
 (.seq (.reg [Qm 20 0,
 Qo 21 (.nck (.t 20)),
 Qo 22 (.fld (.t 21) 0),
 Qm 23 3,
 Qo 24 (.call 43 [(.t 22),(.t 23)])] [0,5,10])
 (.seq (.reg [Qm 25 0,
 Qo 26 (.ldl (.t 10) (some 6)),
 Qo 27 (.call 139 [(.t 25),(.t 26)])] [0,5])
 (.reg [Qm 28 0,
 Qo 29 (.nck (.t 28)),
 Qo 30 (.fld (.t 29) 0),
 Qm 31 5,
 Qo 32 (.call 43 [(.t 30),(.t 31)])] []))))))
noncomputable def D2:Cx:=⟨Tryz.prog,141,Tryz.f141,33,[300018,300026],[],[]⟩
theorem JS:Good D2:=⟨Tryz.func141,by kernel_rfl⟩
theorem P1:D2.rs=[]:=rfl
theorem QL (hl:args.length≤33) (h:Run D2 K [.code JJ] (At args) E σ):AP Tryz.prog 141 args σ K:=
 AX (cx:=D2) (code:=Tryz.f141.body.getD .skip) JS (by kernel_rfl) Tryz.ntmps141 hl (AZ D2 _ (Ax JJ) _ [] (by kernel_rfl)) h
def Ky:C:=(.seq (.reg [Qo 13 (.bin .lss (.t 12) (.t 11))] [0,1,3,10,11,12,13])
 (.seq (.cond (.t 13) .skip
 (.exit 0))
 (.seq (.block 1 (.seq (.reg [Qm 14 12,
 Qo 15 (.ix (.t 10) (.t 12) 8),
 Qo 16 (.ld (.t 15) (some 8)),
 Qo 9 (.al [(.d (.str [])),.AY,(.d (.int .i64 0)),(.d (.str [])),(.d (.int .i64 0)),.AY,.AY,.AY] false),
 Qm 8 14,
 ⟨none,.st (.t 9) (.t 16) 8,none⟩] [0,1,3,8,9,10,11,12])
 (.seq (.seq (.reg [Qm 17 8,
 Qo 18 (.bin .gtr (.t 17) (.c (.d (.int .i64 0))))] [0,1,3,9,10,11,12,18])
 (.cond (.t 18) (.reg [Qm 19 0,
 Qo 20 (.nck (.t 19)),
 Qo 21 (.fld (.t 20) 0),
 Qm 22 1,
 Qo 23 (.call 43 [(.t 21),(.t 22)])] [0,1,3,9,10,11,12])
 .skip))
 (.reg [Qm 24 3,
 Qo 25 (.ldl (.t 9) (some 8)),
 Qo 26 (.EY (.t 24) [(.t 25)])] [0,1,3,10,11,12]))))
 (.reg [Qo 27 (.bin .add (.t 12) (.c (.d (.int .i64 1)))),
 Qm 12 27] [0,1,3,10,11,12]))))
def HC:C:=(.seq (.reg [Qm 10 2,
 Qo 11 (.len (.t 10)),
 Qo 12 (.mv (.c (.d (.int .i64 0))))] [0,1,3,10,11,12])
 (.block 0 (.loop Ky)))
noncomputable def C5:Cx:=⟨Tryz.prog,142,Tryz.f142,28,[300025],[],[]⟩
theorem HQ:Good C5:=⟨Tryz.func142,by kernel_rfl⟩
theorem Mh:C5.rs=[]:=rfl
theorem NM (hl:args.length≤28) (h:Run C5 K [.code HC] (At args) E σ):AP Tryz.prog 142 args σ K:=
 AX (cx:=C5) (code:=Tryz.f142.body.getD .skip) HQ (by kernel_rfl) Tryz.ntmps142 hl (AZ C5 _ (Ax HC) _ [] (by kernel_rfl)) h
def I8:C:=(.seq (.reg [Qo 2 (.box (.t 0) false)] [1,2])
 (.seq (.reg [Qo 3 (.ld (.t 1) none),
 Qo 4 (.nck (.t 3)),
 Qo 5 (.fld (.t 4) 0),
 Qo 6 (.fld (.t 2) 0),
 Qo 7 (.ldl (.t 6) none),
 Qo 8 (.call 43 [(.t 5),(.t 7)])] [1,2])
 (.seq (.reg [Qo 9 (.ld (.t 1) none),
 Qo 10 (.fld (.t 2) 1),
 Qo 11 (.ldl (.t 10) none),
 Qo 12 (.ld (.t 1) none),
 Qo 13 (.mkf 140 [(.t 12)] []),
 Qo 14 (.call 79 [(.t 9),(.t 11),(.t 13)])] [1,2])
 (.seq (.reg [Qo 15 (.ld (.t 1) none),
 Qo 16 (.nck (.t 15)),
 Qo 17 (.fld (.t 16) 0),
 Qo 18 (.call 43 [(.t 17),(.c (.d (.str [32,45,62,32])))])] [1,2])
 (.reg [Qo 19 (.ld (.t 1) none),
 Qo 20 (.fld (.t 2) 2),
 Qo 21 (.ldl (.t 20) (some 6)),
 Qo 22 (.call 139 [(.t 19),(.t 21)])] [])))))
noncomputable def DG:Cx:=⟨Tryz.prog,143,Tryz.f143,23,[300007,300011,300021],[],[]⟩
theorem Ig:Good DG:=⟨Tryz.func143,by kernel_rfl⟩
theorem O9:DG.rs=[]:=rfl
theorem PD (hl:args.length≤23) (h:Run DG K [.code I8] (At args) E σ):AP Tryz.prog 143 args σ K:=
 AX (cx:=DG) (code:=Tryz.f143.body.getD .skip) Ig (by kernel_rfl) Tryz.ntmps143 hl (AZ DG _ (Ax I8) _ [] (by kernel_rfl)) h
def KI:C:=(.seq (.reg [Qo 13 (.bin .lss (.t 12) (.t 11))] [0,1,3,10,11,12,13])
 (.seq (.cond (.t 13) .skip
 (.exit 0))
 (.seq (.block 1 (.seq (.reg [Qm 14 12,
 Qo 15 (.ix (.t 10) (.t 12) 6),
 Qo 16 (.ld (.t 15) (some 6)),
 Qo 9 (.al [(.d (.int .i64 0)),(.d (.str [])),(.d (.int .i64 0)),.AY,.AY,.AY] false),
 Qm 8 14,
 ⟨none,.st (.t 9) (.t 16) 6,none⟩] [0,1,3,8,9,10,11,12])
 (.seq (.seq (.reg [Qm 17 8,
 Qo 18 (.bin .gtr (.t 17) (.c (.d (.int .i64 0))))] [0,1,3,9,10,11,12,18])
 (.cond (.t 18) (.reg [Qm 19 0,
 Qo 20 (.nck (.t 19)),
 Qo 21 (.fld (.t 20) 0),
 Qm 22 1,
 Qo 23 (.call 43 [(.t 21),(.t 22)])] [0,1,3,9,10,11,12])
 .skip))
 (.reg [Qm 24 3,
 Qo 25 (.ldl (.t 9) (some 6)),
 Qo 26 (.EY (.t 24) [(.t 25)])] [0,1,3,10,11,12]))))
 (.reg [Qo 27 (.bin .add (.t 12) (.c (.d (.int .i64 1)))),
 Qm 12 27] [0,1,3,10,11,12]))))
def Gp:C:=(.seq (.reg [Qm 10 2,
 Qo 11 (.len (.t 10)),
 Qo 12 (.mv (.c (.d (.int .i64 0))))] [0,1,3,10,11,12])
 (.block 0 (.loop KI)))
noncomputable def CO:Cx:=⟨Tryz.prog,144,Tryz.f144,28,[300025],[],[]⟩
theorem Gu:Good CO:=⟨Tryz.func144,by kernel_rfl⟩
theorem Lx:CO.rs=[]:=rfl
theorem M8 (hl:args.length≤28) (h:Run CO K [.code Gp] (At args) E σ):AP Tryz.prog 144 args σ K:=
 AX (cx:=CO) (code:=Tryz.f144.body.getD .skip) Gu (by kernel_rfl) Tryz.ntmps144 hl (AZ CO _ (Ax Gp) _ [] (by kernel_rfl)) h
def HB:C:=(.seq (.reg [Qm 6 1,
 Qo 7 (.len (.t 6)),
 Qo 8 (.bin .gtr (.t 7) (.c (.d (.int .i64 0))))] [0,1,2,8])
 (.cond (.t 8) (.seq (.reg [Qm 9 0,
 Qo 10 (.nck (.t 9)),
 Qo 11 (.fld (.t 10) 0),
 Qo 12 (.call 43 [(.t 11),(.c (.d (.str [40])))])] [0,1,2])
 (.seq (.reg [Qm 13 0,
 Qm 14 1,
 Qm 15 2,
 Qo 16 (.call 144 [(.t 13),(.c (.d (.str [44,32]))),(.t 14),(.t 15)])] [0])
 (.reg [Qm 17 0,
 Qo 18 (.nck (.t 17)),
 Qo 19 (.fld (.t 18) 0),
 Qo 20 (.call 43 [(.t 19),(.c (.d (.str [41])))])] [])))
 .skip))
noncomputable def C4:Cx:=⟨Tryz.prog,148,Tryz.f148,21,[],[],[]⟩
theorem Es:Good C4:=⟨Tryz.func148,by kernel_rfl⟩
theorem Mg:C4.rs=[]:=rfl
theorem NL (hl:args.length≤21) (h:Run C4 K [.code HB] (At args) E σ):AP Tryz.prog 148 args σ K:=
 AX (cx:=C4) (code:=Tryz.f148.body.getD .skip) Es (by kernel_rfl) Tryz.ntmps148 hl (AZ C4 _ (Ax HB) _ [] (by kernel_rfl)) h
attribute [go_sem] WV Sa WU Q3 K4 Q4 Nr lX lY Nw Q9 Ji O8 Jg R8 XZ Jh Q6 PV Q5 Q8 iR iS eP iT iQ NZ J1 Q7 Q2 P1 Mh O9 Lx Mg
end Go.Ab
