/- Contracts of the library's functions, carried over to abstract states. What the cards of this seat share: the laid variables. Texts and expressions read out of memory. Data types of package api as plain data. Guarded operations that change nothing, run whatever the guard is. The parser's state in memory; its steps over single tokens. Conditions: none. -/
import Derived.Test.YtifplkldbbcldaaGreatDoorCards
import Derived.Test.YtifplkldbbcldaaGreatDoorTie
import Derived.LaidMore
import Derived.OpenShut
import Derived.Stop.Joined
import Derived.Stop.LaidErr
import Derived.Test.YtifplkldbbcldaaGreatDoorXQi
set_option linter.unusedSimpArgs false
set_option linter.unusedVariables false
set_option maxRecDepth 4000
set_option maxHeartbeats 8000000
open Nat renaming lt_of_lt_of_le→V0,le_trans→Ay,add_zero→E9,le_refl→A4
open List renaming getElem?_map→BC,getElem?_eq_some_iff→A3,length_map→AJ,mem_cons_self→BB,mem_cons_of_mem→Bh,getElem?_append_right→BA,length_pos_iff→A5
open Option renaming map_eq_some_iff→AM,isSome_iff_exists→YK,bind_some→Cn
open Option.some renaming injEq→AQ,inj→DK
open Bool renaming and_eq_true→AR,eq_iff_iff→Ds
namespace Go.Ab
open Go.RowKit Go.Sort Go.Proofs
theorem Rel.below {base:Nat} {g:Gh} {Pr:Nat→Prop} {σ:AK} {w0 w w':World} (h:Rel base g Pr σ w0 w) (hb:Below w.heap.size w w'):Rel base g Pr σ w0 w'∧KP Pr w w':=
 ⟨h.grow hb.size (fun b hlt _=>hb.block b hlt) ⟨hb.os,hb.tape,hb.output,hb.size,fun b hlt=>hb.block b (V0 hlt h.bs)⟩ (fun b hp=>⟨V0 (h.pr b hp).1 hb.size,.inl hp⟩),hb.size,fun b hp=>hb.block b (h.pr b hp).1⟩
def bys (s:List UInt8):ByteArray:=⟨s.toArray⟩
theorem iE (l:List (List UInt8)):(l.map bys).map (·.data.toList)=l:=by
 rw [List.map_map]
 conv=>rhs;rw [← List.map_id l]
 rfl
theorem oI (l:List (List UInt8)) (sep:List UInt8) (σ:AK) (hN:l.length≤100000) (hlen:(Lib.join l sep).length≤100000000000000):
 AP Tryz.prog 44 [.d (.sl (l.map Br)),.d (.str sep)] σ (fun v σ'=>v= .d (.str (Lib.join l sep))∧σ'=σ):=by
 intro base g Pr w0 w vs hr hv
 obtain ⟨v,u,rfl,h1,h2⟩:=hv.two
 have hlen':(Lib.join l sep).length≤maxLen:=Ay hlen (by decide+kernel)
 cases h2 with|d h2=>cases h2 with|str _=>
 have fin:∀w',Below w.heap.size w w'→∃v av g' σ',(Ending.returned (.string ⟨(Lib.join l sep).toArray⟩))=Ending.returned v∧VR g' av v∧Rel base g' Pr σ' w0 w'∧g.le g'∧KP Pr w w'∧av= .d (.str (Lib.join l sep))∧σ'=σ:=fun w' hb=>by
  obtain ⟨k1,k2⟩:=hr.below hb
  exact ⟨_,_,g,σ,rfl,.d (.str hlen'),k1,Gh.le_refl g,k2,rfl,rfl⟩
 cases l with
 |nil=>
  cases h1 with|d h1=>
  obtain ⟨a,cap,rfl,_⟩:=h1.Kn
  refine Calls.mono (show Calls Tryz.prog 44 #[.slice a 0 cap,.string ⟨sep.toArray⟩] w _ from Any.strings_Join_none Tryz.oW Tryz.OC a cap ⟨sep.toArray⟩ w) ?_
  rintro e w' ⟨rfl,rfl⟩
  exact fin _ (Below.refl _ _)
 |cons x l=>
  cases h1 with|d h1=>
  generalize hrows:List.map Br (x::l)=rows at h1
  cases h1 with
  |nil=>simp at hrows
  |@sl rows b off cap size f hc hm hs hi hrd=>
   subst hrows
   have hs1:size=1:=by
    have:=hs (Br x) (by simp)
    simpa [Br] using this.symm
   subst hs1
   have hcell:∀(j:Nat) (y:ByteArray),((x::l).map bys)[j]?=some y→w.cell? ⟨b,off+j,none⟩=some (.string y):=by
    intro j y hy
    rw [BC,AM] at hy
    obtain ⟨s,hsj,rfl⟩:=hy
    have hjl:j < ((x::l).map Br).length:=by
     have:=(A3.1 hsj).1
     simpa using this
    have h3:=hi j 0 hjl (by omega)
    have h4:=hrd j (Br s) 0 (.str s) (by rw [BC,hsj];rfl) rfl
    generalize f j 0=fv at h3 h4
    cases h4
    have:=hr.im _ _ _ h3
    rw [Nat.mul_one,E9] at this
    exact this
   have hbk:b < w.heap.size:=by
    have h3:=hi 0 0 (by simp) (by omega)
    exact hr.Sw h3
   have hc':((x::l).map bys).length≤cap:=by simpa using hc
   have hcon:=Any.strings_Join Tryz.oW Tryz.OC b off cap ((x::l).map bys) ⟨sep.toArray⟩ w hcell hbk (by simp at hN ⊢;omega) hc' (by rw [iE];simp only [List.toList_toArray];omega)
   rw [iE] at hcon
   rw [AJ] at hcon ⊢
   refine Calls.mono hcon ?_
   rintro e w' ⟨rfl,hb⟩
   exact fin _ hb
def VJ:Array Value:=(Lib.pow10Tab.map fun z=>Value.int .u64 z).toArray
def TD:Nat:=1
def Z7:Nat:=4
theorem XE:Tryz.prog.globalNamed "internal/strconv.uint64pow10"=some TD:=by kernel_rfl
theorem Lq (n:Int) (σ:AK) (ht:σ.gt TD=some VJ):AP Tryz.prog 146 [.d (.int .i64 n),.d (.int .i64 10)] σ (fun v σ'=>v= .d (.str (Lib.itoa n))∧σ'=σ):=by
 refine AP.z6 (fun base g Pr w0 w vs hr hv=>?_)
 obtain ⟨v,u,rfl,hvv,hu⟩:=hv.two
 obtain ⟨rfl,h⟩:=hvv.Yo
 obtain ⟨rfl,_⟩:=hu.Yo
 have h0: -9223372036854775808≤n:=h.1
 have h1:n≤9223372036854775807:=h.2
 exact ⟨_,.str (by have:=Lib.itoa_length_le n h0 h1;have:(21:Nat)≤maxLen:=by decide+kernel
                   omega),Any.strconv_FormatInt_10 Tryz.vD n h0 h1 w (hr.tab XE ht)⟩
theorem Vh {σ:AK} {i:Nat} {s:AV} {ty:TypeId} (hb:σ.blk i=some [.gp i 0,s]) (ht:σ.bt i=some (2,ty)):AP Tryz.prog 85 [.gp i 0] σ (fun v σ'=>v= .tup []∧σ'=σ):=
 lI (fun b w h=>Any.Builder_copyCheck_used Tryz.oX Tryz.RL b w h) hb ht
theorem VRs.three {g:Gh} {c d e:AV} {vs:List Value} (h:VRs g [c,d,e] vs):∃v u x,vs=[v,u,x]∧VR g c v∧VR g d u∧VR g e x:=by
 cases h with|cons h hs=>obtain ⟨u,x,rfl,hu,hx⟩:=hs.two;exact ⟨_,_,_,rfl,h,hu,hx⟩
def Zw (s:Str):Prop:=s=[]∨(s≠[]∧(∀x∈s,Da Gd x=true)∧(IW s 0).isSome=true∧s.length≤20000)
theorem vX:∀(s:Str) (acc:Nat) (v:Int),(∀x∈s,Da Gd x=true)→IW s (acc:Int)=some v→acc≤1000000→∃m:Nat,v=(m:Int)∧Lib.parseUintM (2 ^ 64 - 1) acc s= .ok m∧m≤1000000
 |[],acc,v,_,h,ha=>by
  simp only [IW,AQ] at h
  exact ⟨acc,h.symm,rfl,ha⟩
 |b::r,acc,v,hd,h,ha=>by
  have hb:=hd b (BB ..)
  simp only [Da,Gd,AR,decide_eq_true_eq] at hb
  have hw:IntKind.u8.wrap ((b.toNat:Int) - 48)=((b.toNat - 48:Nat):Int):=by
   have h1:IntKind.u8.wrap ((b.toNat:Int) - 48)=((b.toNat:Int) - 48) % 256:=rfl
   rw [h1];omega
  rw [IW,hw] at h
  split at h
  · cases h
  · rename_i hle
    have e1:(acc:Int) * 10+((b.toNat - 48:Nat):Int)=((acc * 10+(b.toNat - 48):Nat):Int):=by omega
    rw [e1] at h hle
    obtain ⟨m,h1,h2,h3⟩:=vX r _ v (fun x hx=>hd x (Bh _ hx)) h (by omega)
    refine ⟨m,h1,?_,h3⟩
    rw [Lib.parseUintM,if_pos (by omega),if_neg (by omega),if_neg (by omega)]
    exact h2
theorem pE {s:Str} (hn:s≠[]) (hd:∀x∈s,Da Gd x=true) (hv:(IW s 0).isSome=true):Lib.parseIntB 64 s= .ok (Rt s)∧0≤Rt s∧Rt s≤1000000:=by
 obtain ⟨v,hv⟩:=YK.1 hv
 obtain ⟨m,h1,h2,h3⟩:=vX s 0 v hd hv (by omega)
 have e:Rt s=(m:Int):=by rw [Rt,hv,← h1];rfl
 rw [e]
 refine ⟨?_,by omega,by omega⟩
 match s,hn with
 |c::r,_=>
  have hb:=hd c (BB ..)
  simp only [Da,Gd,AR,decide_eq_true_eq] at hb
  have hc:¬(c.toNat=43∨c.toNat=45):=by omega
  have h45:¬c.toNat=45:=by omega
  have h43:¬c.toNat=43:=by omega
  simp only [Lib.parseIntB,h43,or_self,if_false,Lib.parseUintB,List.cons_ne_nil,if_false,h2,h45,not_false_eq_true,true_and,false_and]
  rw [if_neg (by omega)]
theorem vV:Rt []=0:=rfl
theorem gE {s:Str} (h:Zw s):0≤Rt s∧Rt s≤1000000:=by
 rcases h with rfl|⟨h1,h2,h3⟩
 · rw [vV];omega
 · exact (pE h1 h2 h3.1).2
theorem hX (s:Str) (σ:AK) (hs:Zw s) (he:∃te pe,σ.gt Z7=some #[.iface te pe]):
 AP Tryz.prog 215 [.d (.str s),.d (.int .i64 10),.d (.int .i64 64)] σ (fun v σ'=>v= .tup [.d (.int .i64 (Rt s)),.undef]∧σ'=σ):=by
 intro base g Pr w0 w vs hr hv
 obtain ⟨v,u,x,rfl,h1,h2,h3⟩:=hv.three
 cases h1 with|d h1=>cases h1 with|str hsl=>
 obtain ⟨rfl,_⟩:=h2.Yo
 obtain ⟨rfl,_⟩:=h3.Yo
 have hnum:IntKind.i64.has (Rt s):=by
  have:=gE hs
  exact ⟨by show (-9223372036854775808:Int)≤_;omega,by show _≤(9223372036854775807:Int);omega⟩
 have fin:∀(y:Value) (w':World),Below w.heap.size w w'→∃v av g' σ',(Ending.returned (.tuple #[.int .i64 (Rt s),y]))=Ending.returned v∧VR g' av v∧Rel base g' Pr σ' w0 w'∧g.le g'∧KP Pr w w'∧av= .tup [.d (.int .i64 (Rt s)),.undef]∧σ'=σ:=fun y w' hb=>by
  obtain ⟨k1,k2⟩:=hr.below hb
  refine ⟨_,_,g,σ,rfl,VR.tup (vs:=[.int .i64 (Rt s),y]) rfl (fun i c v hc hv=>?_),k1,Gh.le_refl g,k2,rfl,rfl⟩
  match i,hc,hv with
  |0,hc,hv=>simp at hc hv;subst hc hv;exact .d (.int hnum)
  |1,hc,hv=>simp at hc hv;subst hc;exact .undef
  |i+2,hc,hv=>simp at hc
 rcases hs with rfl|⟨g1,g2,g3⟩
 · obtain ⟨te,pe,hg⟩:=he
   obtain ⟨hlt,ty,fr,hc⟩:=hr.st.1 Z7 _ hg
   have hcell:w.cell? ⟨Z7,0,none⟩=some (.iface te pe):=by
    unfold World.cell?
    rw [hr.bel.block Z7 hlt,hc];rfl
   refine Calls.mono (Any.strconv_ParseInt_10_at64_syntax Tryz.jC ⟨#[]⟩ (by decide) rfl (.iface te pe) w hcell (.inr ⟨te,pe,rfl⟩)) ?_
   rintro e w' ⟨N,rfl,_,_,hb⟩
   exact fin _ w' hb
 · refine Calls.mono (Any.strconv_ParseInt_10_at64_ok Tryz.jC ⟨s.toArray⟩ (by rw [Um];have:=g3.2;omega) (Rt s) (by simpa using (pE g1 g2 g3.1).1) w) ?_
   rintro e w' ⟨rfl,hw⟩
   refine fin _ w' ?_
   rcases hw with rfl|⟨t,rfl⟩
   · exact Below.refl _ _
   · exact Lib.bytesWorld_below _ _ _
end Go.Ab
namespace Go.Ab
open Go.Proofs
def gtT (te:TypeId) (pe:Value):Nat→Option (Array Value):=fun b=>if b=TD then some VJ else if b=Z7 then some #[.iface te pe] else none
theorem y6 (te:TypeId) (pe:Value):(MO (gtT te pe)).gt TD=some VJ:=by simp [MO,gtT]
theorem y5 (te:TypeId) (pe:Value):∃te' pe',(MO (gtT te pe)).gt Z7=some #[.iface te' pe']:=⟨te,pe,by simp [MO,gtT,TD,Z7]⟩
end Go.Ab
namespace Go.Proofs.YtifplkldbbcldaaGreatDoor
open Go.ChangeShapes Go.WideShapes Go.ChangeAt Go.RowKit
theorem Tryz.own:ownKnob Tryz.prog.godebug=none:=by kernel_rfl
theorem Tryz.laidOut:laidOutB Tryz.prog=true:=by kernel_rfl
def jB:List (String×DataW Unit):=[("math/bits.deBruijn32tab",Rows.laid_math_bits_deBruijn32tab),("math/bits.deBruijn64tab",Rows.laid_math_bits_deBruijn64tab),("internal/strconv.uint64pow10",Rows.laid_internal_strconv_uint64pow10),("strconv.ErrRange",Rows.laid_strconv_ErrRange),("strconv.ErrSyntax",Rows.laid_strconv_ErrSyntax)]
theorem wJ:(Tryz.prog.globals[Go.Ab.TD]?).map (·.type)=some 193:=by kernel_rfl
theorem dX:Tryz.prog.globalNamed "strconv.ErrSyntax"=some Go.Ab.Z7:=by kernel_rfl
theorem uK:(Tryz.prog.globals[Go.Ab.Z7]?).map (·.type)=some 90:=by kernel_rfl
theorem iK: "*"++ "errors.errorString"= "*errors.errorString":=by decide
theorem yZ (u:TypeId) (h:Tryz.prog.typeName? 3 u=some "*errors.errorString"):u=218:=
 typeName_ptr_named (nm:= "errors.errorString") (by rw [iK];kernel_rfl) (by kernel_rfl) (by decide) u (by rw [iK];exact h)
theorem uH (os:Os) (args:Array Value):laidMetH Tryz.prog jB ((World.doorLaid Tryz.prog 400 os).forCall (fun _ _=>0) ⟨#[],args,[]⟩).memory:=
 laidMetH_of_parts3 (fuel:=8) (laidMet_of_run' 8 (by kernel_rfl) (by kernel_rfl)) (by kernel_rfl) (by kernel_rfl)
theorem fI {W:World} {n:String} {g:Nat} {cs:Array Value} (hg:Tryz.prog.globalNamed n=some g) (h:W.var? Tryz.prog n=some cs):∃ty fr,W.heap[g]?=some (.cells cs ty fr):=by
 unfold World.var? at h
 rw [hg,Cn] at h
 cases hh:W.heap[g]? with
 |none=>rw [hh] at h;cases h
 |some o=>
  rw [hh] at h
  cases o<;>try (cases h;done)
  rename_i vs ty fr
  have:vs=cs:=by simpa using h
  subst this
  exact ⟨ty,fr,rfl⟩
theorem y7 {W:World} (h:laidMetH Tryz.prog jB W):∃te pe,∀b vs,Go.Ab.gtT te pe b=some vs→∃ty fr,W.heap[b]?=some (.cells vs ty fr):=by
 rw [MakeChecks.laidMetH_plain _ _ _ (by kernel_rfl)] at h
 obtain ⟨a,s,he,_⟩:=laid_sentinel (g:=Go.Ab.Z7) h.tail.tail.tail.tail dX uK Tryz.underlying90 yZ Tryz.underlying218 Tryz.underlying220 rfl rfl Tryz.underlying9 (by kernel_rfl) (by kernel_rfl)
 refine ⟨218,.pointer (some a),fun b vs hb=>?_⟩
 obtain ⟨ps,⟨g0,t0,cs0,f0,p0,q0,hg0,ht0,hv0,hd0,⟨g1,t1,cs1,f1,p1,q1,hg1,ht1,hv1,hd1,⟨g2,t2,cs2,f2,p2,q2,hg2,ht2,hv2,hd2,_,_⟩,_⟩,_⟩,_,_⟩:=h
 obtain rfl:=DK (Go.Ab.XE.symm.trans hg2)
 obtain rfl:=DK (wJ.symm.trans ht2)
 have hc:=Lib.cells_of_tab (k:= .u64) (zs:=Lib.pow10Tab) Tryz.underlying193 Tryz.underlying183 (by kernel_rfl) (by kernel_rfl) (show DataW.trod _ _ _ _ _ _ _ _ _=some (Lib.tabData .u64 Lib.pow10Tab,p2) from hd2)
 have hcs:cs2=Go.Ab.VJ:=by
  apply Array.toList_inj.1
  rw [hc];rfl
 unfold Go.Ab.gtT at hb
 split at hb
 · rename_i e
   subst e
   cases hb
   rw [hcs] at hv2
   exact fI Go.Ab.XE hv2
 · split at hb
   · rename_i e
     subst e
     cases hb
     exact fI dX he
   · cases hb
end Go.Proofs.YtifplkldbbcldaaGreatDoor
namespace Go.Ab
open Go.Proofs
theorem tR {av:List AV} (h:ZF Tryz.prog [9] av):∃s:Str,av=[.d (.str s)]:=by
 cases h with
 |cons h1 h=>
  cases h
  obtain ⟨s,rfl,_⟩:=h1.y9 Tryz.underlying9
  exact ⟨s,by rw [iA Tryz.underlying9 (by simp)]⟩
end Go.Ab
namespace Go.Ab
structure Con where
 name:List UInt8
 args:List Ty
structure Dat where
 name:List UInt8
 vars:Int
 cons:List Con
def Con.enc (c:Con):List DV:=[.str c.name,.sl (Ty.Np c.args)]
def Dat.enc (d:Dat):List DV:=[.str d.name,.int .i64 d.vars,.sl (d.cons.map Con.enc)]
theorem VU {a:Nat} (h:a≤9000000000000000000):IntKind.i64.wrap (((a+1:Nat):Int) - 1)=(a:Int):=by
 rw [BF (by omega) (by omega)];omega
theorem Run.y8 {cx:Cx} {KK:AV→AK→Prop} {k:List CI} {F:Fm} {L:Lm} {σ σ':AK} (e:σ'=σ) (h:Run cx KK k F L σ'):Run cx KK k F L σ:=e ▸ h
theorem Run.AC9 {cx:Cx} {KK:AV→AK→Prop} {k:List CI} {c:C} {F:Fm} {L:Lm} {σ:AK} {α:Type} (ks:List Nat) (Fs:α→Fm) (Ls:Lm) (σs:AK) (I:α→Prop) (h2:∀a,I a→Run cx KK k (Fs a) Ls σs)
 (h1:(∀(F':Fm) (L':Lm) (a:α),Wy ks F'=Fs a→Sy ks L'=Ls→I a→Run cx KK k F' L' σs)→Run cx KK (.code c::k) F L σ):Run cx KK (.code c::k) F L σ:=
 h1 fun F' L' a hF hL hI=>Run.Lg ks (by rw [hF,hL];exact h2 a hI)
theorem ACE {σ:AK} {i:Nat} {z:List AV} {x:Nat×TypeId} (h:σ.blk i=none∧σ.bt i=none):σ.le ((σ.AH i z).HI i x)∧((σ.AH i z).HI i x).blk i=some z:=
 ⟨⟨fun j cs hj=>by
    have hne:j≠i:=fun e=>by rw [e,h.1] at hj;cases hj
    simp [AK.HI,AK.AH,hne,hj],fun _ h=>h,rfl,fun j y hj=>by
    have hne:j≠i:=fun e=>by rw [e,h.2] at hj;cases hj
    simp [AK.HI,AK.AH,hne,hj]⟩,by simp [AK.HI,AK.AH]⟩
theorem vG {σ σ1:AK} {i:Nat} {cs:List AV} (h:σ.le σ1) (hn:σ.blk i=none):σ.le (σ1.AH i cs):=
 ⟨fun j ds hj=>by
   have hne:j≠i:=fun e=>by rw [e,hn] at hj;cases hj
   rw [AZ,if_neg hne];exact h.blk j ds hj,h.tok,h.gt,h.bt⟩
theorem Jl (a b:List UInt8):gV .eql a b=some (.d (.bool (a==b))):=rfl
theorem B0 (a b:List UInt8):gV .neq a b=some (.d (.bool (!(a==b)))):=rfl
theorem gtN (n k:Nat):decide ((k:Int) < (n:Int))=!decide (n≤k):=by
 rw [Ds];simp
theorem leN (n k:Nat):decide ((n:Int)≤(k:Int))=decide (n≤k):=decide_eq_decide.2 (by omega)
theorem ltN (n k:Nat):decide ((n:Int) < (k:Int))=decide (n < k):=decide_eq_decide.2 (by omega)
theorem Ch {a b:Int} (h:a≠b):(a==b)=false:=by simpa using h
end Go.Ab
namespace Go.Ab
open Go.RowKit
variable {P:Program} {K:Cd} {F:Fm} {L:Lm} {σ:AK}
def sel (c:Bool) (v:AV):AV:=if c then v else .tup []
theorem eU (v:AV):sel true v=v:=rfl
def GV (want:Bool) (x:AV) (c:Bool):Prop:=gdV want x=some c
theorem GV.t {b:Bool}:GV true (.d (.bool b)) b:=by cases b<;>rfl
theorem GV.f {b:Bool}:GV false (.d (.bool b)) (!b):=by cases b<;>rfl
theorem GV.st {b c:Bool}:GV true (sel c (.d (.bool b))) (c&&b):=by cases b<;>cases c<;>rfl
theorem GV.sf {b c:Bool}:GV false (sel c (.d (.bool b))) (c&& !b):=by cases b<;>cases c<;>rfl
def Is (d:Nat) (v:AV) (F:Fm) (L:Lm) (σ:AK):Cd:=fun F' L' σ'=>F'=put d v F∧L'=L∧σ'=σ
theorem Is.mk {d:Nat} {v:AV}:Is d v F L σ (put d v F) L σ:=⟨rfl,rfl,rfl⟩
theorem AFM {d s:Nat} {o:O} {want c:Bool} {v:AV} {r:List Q} (hg:GV want (F s) c)
 (hy:c=true→BN P (Is d v F L σ) [⟨some d,o,none⟩] F L σ)
 (hk:BN P K r (put d (sel c v) F) L σ):BN P K (⟨some d,o,some (s,want)⟩::r) F L σ:=by
 show XG (gd F (some (s,want))) (XO P (some d) (BN P K r) F L σ o) (BN P K r (At (some d) (.tup []) F) L σ)
 have hgd:gd F (some (s,want))=some c:=hg
 rw [hgd]
 cases c with
 |true=>exact kU (fun F' L' σ' ⟨h1,h2,h3⟩=>by rw [h1,h2,h3];exact hk) (hy rfl)
 |false=>exact hk
theorem Zz (c x:Bool):(if c=true then sel c (.d (.bool x)) else (.d (.bool false)))=AV.d (.bool (c&&x)):=by cases c<;>rfl
theorem pL (c x:Bool):(if c=true then (.d (.bool true)) else sel (!c) (.d (.bool x)))=AV.d (.bool (c||x)):=by cases c<;>rfl
end Go.Ab
namespace Go.Ab
theorem hU {P:Program} {K:Cd} {F:Fm} {L:Lm} {σ:AK} {d s:Nat} {o:O} {want c:Bool} {r:List Q} (hg:GV want (F s) c)
 (h:∃v,(c=true→BN P (Is d v F L σ) [⟨some d,o,none⟩] F L σ)∧BN P K r (put d (sel c v) F) L σ):BN P K (⟨some d,o,some (s,want)⟩::r) F L σ:=by
 obtain ⟨v,h1,h2⟩:=h
 exact AFM hg h1 h2
end Go.Ab
namespace Go.Ab
theorem Is.pv {d:Nat} {v:AV} {F:Fm} {L:Lm} {σ:AK} {x:Option AV} (h:x=some v):XPv x (some d) (Is d v F L σ) F L σ:=by
 subst h;exact Is.mk
theorem AD.lQ {P:Program} {f:FuncId} {args args':List AV} {d:Option Nat} {K:Cd} {F:Fm} {L:Lm} {σ:AK} (e:args=args') (h:AD P f args' d K F L σ):AD P f args d K F L σ:=e ▸ h
end Go.Ab
namespace Go.Ab
theorem pU (c:Bool) (v:AV):sel c (sel c v)=sel c v:=by cases c<;>rfl
theorem ADP (c x:Bool) (v:AV):sel (c&&x) (sel c v)=sel (c&&x) v:=by cases c<;>cases x<;>rfl
theorem ADQ (c x:Bool) (v:AV):sel (c&&x) (sel x v)=sel (c&&x) v:=by cases c<;>cases x<;>rfl
end Go.Ab
namespace Go.Ab
theorem v8 (c x:Bool):(if (!c)=true then (.d (.bool true)) else sel c (.d (.bool x)))=AV.d (.bool (!c||x)):=by cases c<;>rfl
end Go.Ab
namespace Go.Ab
open Go.Proofs
variable {P:Program} {cx:Cx} {F:Fm} {Lm0:Lm} {σ σ1:AK} {KX:Cd}
theorem AD.upd {d:Option Nat} {f:FuncId} {args:List AV} {v:AV} (h:AP P f args σ (fun v' σ'=>v'=v∧σ'=σ1)) (hk:KX (At d v F) Lm0 σ1) (hn:args.all AV.BL=true:=by rfl):AD P f args d KX F Lm0 σ:=
 AD.mk hn h (fun v' σ' ⟨e1,e2⟩=>by subst e1;subst e2;exact hk)
def Pv (L:List Tok):DV:= .sl (L.map Tok.enc)
def psA (L:List Tok) (s:PSt):List AV:=[.d (Pv L),.d (.int .i64 ((L.length - s.r.length:Nat):Int)),.d (.bool s.f),.d (.int .i64 ((s.p:Nat):Int))]
structure POk (L:List Tok) (s:PSt):Prop where
 wf:WF s.r
 suf:s.r <:+L
 len:L.length≤17000
theorem POk.run {α:Type} {L:List Tok} {s:PSt} (h:POk L s) (m:PM α):POk L (m.run s).2:=⟨(m.sf s h.wf).1,(m.sf s h.wf).2.trans h.suf,h.len⟩
theorem PM.le {α:Type} {s:PSt} (m:PM α) (h:WF s.r):(m.run s).2.r.length≤s.r.length:=(m.sf s h).2.length_le
theorem POk.at {L:List Tok} {s:PSt} (h:POk L s):(L.map Tok.enc)[L.length - s.r.length]?=some [.int .i64 s.hd.kind,.str s.hd.text,.int .i64 ((s.hd.pos:Nat):Int)]:=by
 obtain ⟨pre,he⟩:=h.suf
 obtain ⟨r,f,p⟩:=s
 cases r with
 |nil=>exact h.wf.elim
 |cons t l=>
  simp only at he
  subst he
  rw [BC,show (pre++t::l).length - (t::l).length=pre.length by simp,BA (A4 _),Nat.sub_self];rfl
theorem POk.adv {L:List Tok} {s:PSt} (h:POk L s) {t:Str} (ht:t≠[]) (hc:(s.hd.text==t)=true):POk L s.adv:=by
 rw [beq_iff_eq] at hc
 obtain ⟨h1,h2⟩:=MP h.wf (.inr (by rw [hc];exact ht))
 exact ⟨h1,h2.trans h.suf,h.len⟩
theorem POk.yJ {L:List Tok} {s:PSt} (h:POk L s) (hk:s.hd.kind≠6):POk L s.adv:=by
 obtain ⟨h1,h2⟩:=MP h.wf (.inl hk)
 exact ⟨h1,h2.trans h.suf,h.len⟩
theorem POk.fail {L:List Tok} {s:PSt} (h:POk L s):POk L s.fail:=⟨(W5 h.wf).1,(W5 h.wf).2.trans h.suf,h.len⟩
theorem POk.idx {L:List Tok} {s:PSt} (h:POk L s):L.length - s.adv.r.length=(L.length - s.r.length)+1∧L.length - s.r.length≤17000:=by
 have h1:=BW h.wf
 have h2:=h.suf.length_le
 have h3:=h.len
 omega
theorem pN {L:List Tok} {s:PSt} (h:POk L s):psA L s.adv=[.d (Pv L),.d (.int .i64 (((L.length - s.r.length)+1:Nat):Int)),.d (.bool s.f),.d (.int .i64 ((s.p:Nat):Int))]:=by
 unfold psA;rw [h.idx.1];rfl
section
variable {L:List Tok} {i:Nat} {s:PSt}
theorem Q5 (hs:POk L s) (σ:AK) (hb:σ.blk i=some (psA L s)):AP Tryz.prog 64 [.gp i 0] σ (fun v σ'=>v= .agg [.d (.int .i64 s.hd.kind),.d (.str s.hd.text),.d (.int .i64 ((s.hd.pos:Nat):Int))]∧σ'=σ):=by
 refine Sn (by simp) ?_
 rw [Ar]
 have hat:=hs.at
 unfold psA Pv at hb
 have hix:((L.length - s.r.length:Nat):Int) < ((L.map Tok.enc).length:Int):=by
  have:=(A3.1 hat).1;omega
 (repeat' (first|refine ctQ rfl ?_|((first|refine rgQ mxQ ?_|refine cdQ ?_|refine Run.A2 L2 (AK.le_refl _) ?_)<;>try simp -implicitDefEqProofs only [hb,hat,go_sem])|fail))
theorem DO (hs:POk L s) (t:Str) (σ:AK) (hb:σ.blk i=some (psA L s)) (hc:(s.hd.text==t)=true):AP Tryz.prog 65 [.gp i 0,.d (.str t)] σ (fun v σ'=>v= .d (.bool true)∧σ'=σ.AH i (psA L s.adv)):=by
 refine Jb (by simp) ?_
 rw [BH,pN hs]
 have hpk:=Q5 hs σ hb
 have hw:=BV (a:=L.length - s.r.length) (by have:=hs.idx.2;omega)
 unfold psA at hb
 (repeat' (first|refine ctQ rfl ?_|((first|refine rgQ mxQ ?_|refine cdQ ?_|refine Run.A2 G0 (AK.le_refl _) ?_|refine AD.det (hpk) ?_)<;>try simp -implicitDefEqProofs only [B0,hc,hb,hw,go_sem])|fail))
theorem DN (hs:POk L s) (t:Str) (σ:AK) (hb:σ.blk i=some (psA L s)) (hc:(s.hd.text==t)=false):AP Tryz.prog 65 [.gp i 0,.d (.str t)] σ (fun v σ'=>v= .d (.bool false)∧σ'=σ):=by
 refine Jb (by simp) ?_
 rw [BH]
 have hpk:=Q5 hs σ hb
 (repeat' (first|refine ctQ rfl ?_|((first|refine rgQ mxQ ?_|refine cdQ ?_|refine Run.A2 G0 (AK.le_refl _) ?_|refine AD.det (hpk) ?_)<;>try simp -implicitDefEqProofs only [B0,hc,go_sem])|fail))
theorem Vj (hs:POk L s) (σ:AK) (hb:σ.blk i=some (psA L s)):AP Tryz.prog 68 [.gp i 0] σ (fun v σ'=>v= .tup []∧σ'=σ.AH i (psA L s.fail)):=by
 refine Sl (by simp) ?_
 rw [Ar]
 have hpk:=Q5 hs σ hb
 have hl:1≤L.length:=Ay (A5.2 hs.wf.ne) hs.suf.length_le
 have hlen:=hs.len
 have hw:IntKind.i64.wrap ((L.length:Int) - 1)=((L.length - 1:Nat):Int):=by rw [BF (by omega) (by omega)];omega
 have hfl:=iM hs.wf
 have hst:psA L s.fail=[.d (Pv L),.d (.int .i64 ((L.length - 1:Nat):Int)),.d (.bool true),.d (.int .i64 (((if s.f then s.p else s.hd.pos):Nat):Int))]:=by
  unfold psA;rw [hfl];rfl
 rw [hst]
 unfold psA Pv at hb
 cases hf:s.f with
 |true=>
  rw [hf] at hb
  (repeat' (first|refine ctQ rfl ?_|((first|refine rgQ mxQ ?_|refine cdQ ?_)<;>try simp -implicitDefEqProofs only [hb,hw,AJ,go_sem])|fail))
  exact Run.fin H0 rfl (fun _ _ h=>h) (AK.le_refl _) ⟨rfl,rfl⟩
 |false=>
  rw [hf] at hb
  (repeat' (first|refine ctQ rfl ?_|((first|refine rgQ mxQ ?_|refine cdQ ?_|refine AD.det (hpk) ?_)<;>try simp -implicitDefEqProofs only [hb,hw,AJ,AZ,go_sem])|fail))
  exact Run.fin H0 rfl (fun _ _ h=>h) (AK.le_refl _) ⟨rfl,rfl⟩
theorem Uu (hs:POk L s) (t:Str) (ht:t≠[]) (σ:AK) (hb:σ.blk i=some (psA L s)):AP Tryz.prog 127 [.gp i 0,.d (.str t)] σ (fun v σ'=>v= .tup []∧σ'=σ.AH i (psA L ((PM.exp t ht).run s).2)):=by
 refine QW (by simp) ?_
 rw [BH]
 cases hc:(s.hd.text==t) with
 |true=>
  have hr:((PM.exp t ht).run s).2=s.adv:=by
   show (if s.hd.text==t then ((),s.adv) else ((),s.fail)).2=_
   rw [if_pos hc]
  rw [hr]
  (repeat' (first|refine ctQ rfl ?_|((first|refine rgQ mxQ ?_|refine cdQ ?_|(refine AD.upd (DO hs t σ hb hc) ?_))<;>try simp -implicitDefEqProofs only [go_sem])|fail))
  exact Run.fin G1 rfl (fun _ _ h=>h) (AK.le_refl _) ⟨rfl,rfl⟩
 |false=>
  have hr:((PM.exp t ht).run s).2=s.fail:=by
   show (if s.hd.text==t then ((),s.adv) else ((),s.fail)).2=_
   rw [if_neg (by rw [hc];decide)]
  rw [hr]
  (repeat' (first|refine ctQ rfl ?_|((first|refine rgQ mxQ ?_|refine cdQ ?_|(refine AD.upd (DN hs t σ hb hc) ?_)|(refine AD.upd (Vj hs σ hb) ?_))<;>try simp -implicitDefEqProofs only [go_sem])|fail))
  exact Run.fin G1 rfl (fun _ _ h=>h) (AK.le_refl _) ⟨rfl,rfl⟩
theorem AAY (hs:POk L s) (k:Int) (hk:k≠6) (σ:AK) (hb:σ.blk i=some (psA L s)):AP Tryz.prog 124 [.gp i 0,.d (.int .i64 k)] σ (fun v σ'=>v= .d (.str ((PM.take k hk).run s).1)∧σ'=σ.AH i (psA L ((PM.take k hk).run s).2)):=by
 refine Sq (by simp) ?_
 rw [BH]
 have hpk:=Q5 hs σ hb
 cases hc:(s.hd.kind==k) with
 |true=>
  have hr:(PM.take k hk).run s=(s.hd.text,s.adv):=if_pos hc
  rw [hr,pN hs]
  have hw:=BV (a:=L.length - s.r.length) (by have:=hs.idx.2;omega)
  have hne:(s.hd.kind != k)=false:=by unfold bne;rw [hc];rfl
  unfold psA at hb
  (repeat' (first|refine ctQ rfl ?_|((first|refine rgQ mxQ ?_|refine cdQ ?_|refine Run.A2 H2 (AK.le_refl _) ?_|refine AD.det (hpk) ?_)<;>try simp -implicitDefEqProofs only [hne,hb,hw,go_sem])|fail))
 |false=>
  have hr:(PM.take k hk).run s=([],s.fail):=if_neg (by simp only;rw [hc];decide)
  have hne:(s.hd.kind != k)=true:=by unfold bne;rw [hc];rfl
  rw [hr]
  (repeat' (first|refine ctQ rfl ?_|((first|refine rgQ mxQ ?_|refine cdQ ?_|refine Run.A2 H2 (AK.le_refl _) ?_|(refine AD.upd (Vj hs σ hb) ?_)|refine AD.det (hpk) ?_)<;>try simp -implicitDefEqProofs only [hne,go_sem])|fail))
end
def ZG (σ:AK):Prop:=∃te pe,σ.gt Z7=some #[.iface te pe]
def PC {α:Type} (fid:FuncId) (args:List AV) (i:Nat) (L:List Tok) (n:Nat) (m:PM α) (enc:α→AV):Prop:=
 ∀(σ:AK) (s:PSt),ZG σ→POk L s→s.r.length≤n→σ.blk i=some (psA L s)→AP Tryz.prog fid args σ (fun v σ'=>v=enc (m.run s).1∧σ'=σ.AH i (psA L (m.run s).2))
theorem PC.mono {α:Type} {fid:FuncId} {args:List AV} {i:Nat} {L:List Tok} {n k:Nat} {m:PM α} {enc:α→AV} (h:PC fid args i L n m enc) (hk:k≤n):PC fid args i L k m enc:=fun σ s hg h1 h2 h3=>h σ s hg h1 (Ay h2 hk) h3
theorem gW (i:Nat) (L:List Tok) (n:Nat) (k:Int) (hk:k≠6):PC 124 [.gp i 0,.d (.int .i64 k)] i L n (PM.take k hk) (fun x=>.d (.str x)):=fun σ s _ h1 _ h3=>AAY h1 k hk σ h3
theorem Q3 (i:Nat) (L:List Tok) (n:Nat):PC 126 [.gp i 0] i L n E3 (fun x=>.d (.str x)):=fun σ s hg h1 h2 h3=>by
 refine Sm (by simp) ?_
 rw [Ar]
 (repeat' (first|refine ctQ rfl ?_|((first|refine rgQ mxQ ?_|refine cdQ ?_|refine Run.A2 L1 (AK.le_refl _) ?_|(refine AD.upd (gW i L n 1 (by decide) σ s hg h1 h2 h3) ?_))<;>try simp -implicitDefEqProofs only [go_sem])|fail))
 exact ⟨rfl,rfl⟩
theorem T3 (i:Nat) (L:List Tok) (n:Nat):PC 172 [.gp i 0] i L n FJ (fun x=>.d (.str x)):=fun σ s hg h1 h2 h3=>by
 refine Sh (by simp) ?_
 rw [Ar]
 cases hc:(s.hd.text==[95]) with
 |true=>
  have hr:FJ.run s=([],s.adv):=if_pos hc
  rw [hr]
  (repeat' (first|refine ctQ rfl ?_|((first|refine rgQ mxQ ?_|refine cdQ ?_|refine Run.A2 HY (AK.le_refl _) ?_|(refine AD.upd (DO h1 _ σ h3 hc) ?_))<;>try simp -implicitDefEqProofs only [go_sem])|fail))
 |false=>
  have hr:FJ.run s=E3.run s:=if_neg (by rw [hc];decide)
  rw [hr]
  (repeat' (first|refine ctQ rfl ?_|((first|refine rgQ mxQ ?_|refine cdQ ?_|refine Run.A2 HY (AK.le_refl _) ?_|(refine AD.upd (DN h1 _ σ h3 hc) ?_)|(refine AD.upd (Q3 i L n σ s hg h1 h2 h3) ?_))<;>try simp -implicitDefEqProofs only [go_sem])|fail))
end Go.Ab
