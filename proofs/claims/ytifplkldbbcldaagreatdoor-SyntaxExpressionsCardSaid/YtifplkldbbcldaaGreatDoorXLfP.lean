/- Programs read out of memory. Rules for walks that split and call by themselves. Contracts of library functions, carried over to abstract states. The library contracts that are used, laid at this program. Bytes and keywords. Conditions: none. -/
import Derived.Shelf.Strconv.Itoa4
import Derived.Lib.ItoaLen
import Derived.Lib.LaidTab
import Derived.Shelf.Strings.Builder1
import Derived.Shelf.Strings.OnBuilder
import Derived.Shelf.LaysM
import Derived.Shelf.Strconv.ParseIntPublic10
import Derived.Test.YtifplkldbbcldaaGreatDoorProg
import Derived.Test.YtifplkldbbcldaaGreatDoorXAb13
set_option linter.unusedSimpArgs false
set_option linter.unusedVariables false
set_option maxRecDepth 4000
set_option maxHeartbeats 8000000
open List renaming cons_append→A0,nil_append→A3,append_nil→A1,take_of_length_le→A8,length_cons→AB,length_nil→AE,all_cons→Bv,all_nil→L8
open Bool renaming eq_iff_iff→Dn,not_eq_true'→CS,and_true→BH,and_eq_true→AN,or_false→Mm,false_or→Ml,or_true→Od
open Nat renaming lt_of_lt_of_le→Uq,zero_add→Bb
open Option renaming bind_some→BY
open Array renaming getElem?_modify→Qf
namespace Go.Ab
open Go.Proofs
theorem fU {ds:List DV} (h:DT Tryz.prog 40 ds):∃l:List Str,ds=[.sl (l.map B0)]:=by
 obtain ⟨rows,rfl,_,hr⟩:=h.kU Tryz.underlying40
 obtain ⟨l,rfl⟩:=Va (f:=B0) rows (fun r hm=>by
  obtain ⟨s,rfl,_⟩:=(hr r hm).dR Tryz.underlying9
  exact ⟨s,rfl⟩)
 exact ⟨l,rfl⟩
theorem AA1:∀(n:Nat) (ds:List DV),SizeOf.sizeOf ds≤n→DT Tryz.prog 44 ds→∃t:Ex,ds=t.enc:=by
 intro n
 induction n with
 |zero=>intro ds h;cases ds<;>simp at h
 |succ n ih=>
  intro ds hn h
  obtain ⟨a,b,rfl,h1,hb⟩:=(h.Yg Tryz.underlying44).JW
  obtain ⟨a2,b2,rfl,h2,hb2⟩:=hb.JW
  obtain ⟨a3,b3,rfl,h3,hb3⟩:=hb2.JW
  obtain ⟨a4,b4,rfl,h4,hb4⟩:=hb3.JW
  obtain ⟨a5,b5,rfl,h5,hb5⟩:=hb4.JW
  obtain ⟨a6,b6,rfl,h6,hb6⟩:=hb5.JW
  cases hb6.nI
  obtain ⟨o,rfl,_⟩:=h1.nH Tryz.underlying3
  obtain ⟨m,rfl,_⟩:=h2.dR Tryz.underlying9
  obtain ⟨u,rfl,_⟩:=h3.nH Tryz.underlying2
  obtain ⟨ns,rfl⟩:=fU h4
  obtain ⟨rows,rfl,_,hr⟩:=h5.kU Tryz.underlying41
  obtain ⟨rows2,rfl,_,hr2⟩:=h6.kU Tryz.underlying42
  simp only [A0,A3,A1,List.cons.sizeOf_spec,List.nil.sizeOf_spec,DV.int.sizeOf_spec,DV.str.sizeOf_spec,DV.sl.sizeOf_spec] at hn
  obtain ⟨l,rfl⟩:=Va (f:=Ex.enc) rows (fun r hm=>ih r (by
   have:=List.sizeOf_lt_of_mem hm
   omega) (hr r hm))
  obtain ⟨l2,rfl⟩:=Va (f:=Al.enc) rows2 (fun r hm=>by
   have hlt:=List.sizeOf_lt_of_mem hm
   obtain ⟨c1,d1,rfl,g1,e1⟩:=((hr2 r hm).Yg Tryz.underlying112).JW
   obtain ⟨c2,d2,rfl,g2,e2⟩:=e1.JW
   obtain ⟨c3,d3,rfl,g3,e3⟩:=e2.JW
   cases e3.nI
   obtain ⟨c,rfl,_⟩:=g1.dR Tryz.underlying9
   obtain ⟨vs,rfl⟩:=fU g2
   simp only [A0,A3,A1,List.cons.sizeOf_spec,DV.str.sizeOf_spec,DV.sl.sizeOf_spec] at hlt
   obtain ⟨e,rfl⟩:=ih c3 (by omega) g3
   exact ⟨.mk c vs e,by simp [Al.enc,ssD]⟩)
  exact ⟨.mk o m u ns l l2,by rw [Ex.A2];rfl⟩
end Go.Ab
namespace Go.Ab
open Go.RowKit
variable {P:Program} {K:CV} {F:Fm} {L:Lm} {σ:AM}
theorem iD {s:Nat} {v:AV} (h:F s=v):put s v F=F:=by
 funext t
 simp only [put]
 split
 · rename_i e;rw [← h];first|(subst e;rfl)|(rw [e])
 · rfl
theorem AQ {d:Option Nat} {o:O} {s:Nat} {want b:Bool} {r:List Q} (hF:F s= .d (.bool b))
 (h1:b=true→BN P K (⟨d,o,some (s,want)⟩::r) (put s (.d (.bool true)) F) L σ) (h2:b=false→BN P K (⟨d,o,some (s,want)⟩::r) (put s (.d (.bool false)) F) L σ):
 BN P K (⟨d,o,some (s,want)⟩::r) F L σ:=by
 cases b
 · have:=h2 rfl;rw [iD hF] at this;exact this
 · have:=h1 rfl;rw [iD hF] at this;exact this
theorem AH.det {d:Option Nat} {f:FuncId} {args:List AV} {v:AV} (h:AP P f args σ (fun v' σ'=>v'=v∧σ'=σ)) (hk:K (Au d v F) L σ) (hn:args.all AV.Ay=true:=by rfl):AH P f args d K F L σ:=
 AH.mk hn h (fun v' σ' ⟨e1,e2⟩=>by subst e1;subst e2;exact hk)
theorem wrap_add {a b:Nat} (h:a+b≤9000000000000000000):IntKind.i64.wrap ((a:Int)+(b:Int))=((a+b:Nat):Int):=by
 rw [BF (by omega) (by omega)];omega
theorem BU {a:Nat} (h:a+1≤9000000000000000000):IntKind.i64.wrap ((a:Int)+1)=((a+1:Nat):Int):=by
 rw [BF (by omega) (by omega)];omega
theorem BZ {i n:Nat} (h:i < n):decide ((i:Int) < (n:Int))=true:=by simp [h]
theorem FD {i n:Nat} (h:¬i < n):decide ((i:Int) < (n:Int))=false:=by simp;omega
theorem DH {s:List UInt8} {i:Nat} {b:UInt8} (h:s[i]?=some b) (k:IntKind):Z1 (.d (.str s)) (.d (.int k (i:Int)))=some (.d (.int .u8 b.toNat)):=by
 simp [Z1,h]
theorem eW {s:List UInt8} {n:Nat} (h:n≤s.length):Sm (.d (.str s)) none (some (.d (.int .i64 (n:Int))))=some (.d (.str (s.take n))):=by
 simp [Sm,Vp,Uc,h]
theorem vT {s:List UInt8} {n:Nat} (h:n≤s.length):Sm (.d (.str s)) (some (.d (.int .i64 (n:Int)))) none=some (.d (.str (s.drop n))):=by
 simp [Sm,Vp,Uc,h]
theorem vS {s:List UInt8} {n m:Nat} (h:n≤m) (h2:m≤s.length):Sm (.d (.str s)) (some (.d (.int .i64 (n:Int)))) (some (.d (.int .i64 (m:Int))))=some (.d (.str ((s.take m).drop n))):=by
 simp [Sm,Vp,Uc,h,h2]
theorem z8 {b c:UInt8} {s:List UInt8}:Sm (.d (.str (b::c::s))) none (some (.d (.int .i64 2)))=some (.d (.str [b,c])):=by
 rw [show (2:Int)=((2:Nat):Int) from rfl,eW (by simp)];rfl
theorem z7 {b:UInt8} {s:List UInt8}:Sm (.d (.str (b::s))) none (some (.d (.int .i64 1)))=some (.d (.str [b])):=by
 rw [show (1:Int)=((1:Nat):Int) from rfl,eW (by simp)];rfl
theorem y8 (b x:UInt8):((b.toNat:Int)==(x.toNat:Int))=(b==x):=by
 rw [Dn];simp only [beq_iff_eq,Int.natCast_inj,UInt8.toNat_inj]
theorem Run.PN {cx:Cx} {KK:AV→AM→Prop} {k:List CI} (ks:List Nat) (h:Run cx KK k (WE ks F) (SZ ks L) σ):Run cx KK k F L σ:=
 fun items base g lam Pr a w0 w b cs hi hf hb hk=>h items base g lam Pr a w0 w b cs hi (hf.kept ks) hb hk
def ctl (bl:Bool):List CI→Option (List CI)
 | .code .skip::k=>some k
 | .code (.seq x y)::k=>some (.code x::.code y::k)
 | .code (.block i c)::k=>if bl then some (.code c::.blk i::k) else none
 | .code (.scope c)::k=>some (.code c::.scp::k)
 | .blk _::k=>some k
 | .scp::k=>some k
 | .code (.exit i)::k=>VL i k
 |_=>none
theorem Run.ctB {cx:Cx} {KK:AV→AM→Prop} (bl:Bool) {k k':List CI} (e:ctl bl k=some k') (h:Run cx KK k' F L σ):Run cx KK k F L σ:=by
 unfold ctl at e
 split at e
 · cases e;exact Run.skip h
 · cases e;exact Run.seq h
 · split at e
   · cases e;exact Run.block h
   · cases e
 · cases e;exact Run.scope h
 · cases e;exact Run.blk h
 · cases e;exact Run.scp h
 · exact Run.exit e h
 · cases e
theorem Run.ct {cx:Cx} {KK:AV→AM→Prop} {k k':List CI} (e:ctl true k=some k') (h:Run cx KK k' F L σ):Run cx KK k F L σ:=Run.ctB true e h
theorem Run.cb {cx:Cx} {KK:AV→AM→Prop} {k k':List CI} (e:ctl false k=some k') (h:Run cx KK k' F L σ):Run cx KK k F L σ:=Run.ctB false e h
attribute [go_sem] Nat.reduceEqDiff Nat.reduceBEq Nat.reduceAdd Nat.reduceLeDiff reduceIte reduceCtorEq
attribute [go_sem] bQ AD8 tyA Ty.enc Ty.Nk eq_self CS Bool.not_eq_false'
end Go.Ab
namespace Go.Ab
open Go.RowKit Go.Sort
variable {P:Program} {base N:Nat} {g g':Gh} {Pr:Nat→Prop} {σ σ':AM} {w0 w w':World}
theorem Rel.grown (h:Rel base g Pr σ w0 w) (k:Nat) (os:Array Obj):Rel base g Pr σ w0 (Sort.grow (w.drewN k) os)∧KP Pr w (Sort.grow (w.drewN k) os):=by
 have hsz:(Sort.grow (w.drewN k) os).heap.size=w.heap.size+os.size:=by rw [size_grow];rfl
 have hb:∀b,b < w.heap.size→(Sort.grow (w.drewN k) os).heap[b]?=w.heap[b]?:=fun b hb=>by
  show (w.heap++os)[b]?=w.heap[b]?
  rw [Array.getElem?_append,if_pos hb]
 refine ⟨h.grow (by omega) (fun b hlt _=>hb b hlt) ⟨rfl,rfl,rfl,by omega,fun b hlt=>hb b (Uq hlt h.bs)⟩ (fun b hp=>⟨by have:=(h.pr b hp).1;omega,.inl hp⟩),by omega,fun b hp=>hb b (h.pr b hp).1⟩
theorem Rel.tab (h:Rel base g Pr σ w0 w) {name:String} {b:Nat} {vs:Array Value} (hg:P.globalNamed name=some b) (hb:σ.gt b=some vs):w.var? P name=some vs:=by
 obtain ⟨hlt,ty,fr,hc⟩:=h.st.1 b vs hb
 unfold World.var?
 rw [hg,BY,h.bel.block b hlt,hc]
theorem AP.yL {f:FuncId} {args:List AV} {x:DV}
 (h:∀(base:Nat) (g:Gh) (Pr:Nat→Prop) (w0 w:World) (vs:List Value),Rel base g Pr σ w0 w→VRs g args vs→∃v,RD g.im x v∧Calls P f vs.toArray w fun e w'=>e= .returned v∧∃k os,w'=Sort.grow (w.drewN k) os):
 AP P f args σ (fun v σ'=>v= .d x∧σ'=σ):=by
 intro base g Pr w0 w vs hr hv
 obtain ⟨v,hx,hc⟩:=h base g Pr w0 w vs hr hv
 refine hc.mono ?_
 rintro e w' ⟨rfl,k,os,rfl⟩
 obtain ⟨h1,h2⟩:=hr.grown k os
 exact ⟨v,.d x,g,σ,rfl,.d hx,h1,Gh.le_refl g,h2,rfl,rfl⟩
theorem VRs.one {c:AV} {vs:List Value} (h:VRs g [c] vs):∃v,vs=[v]∧VR g c v:=by
 cases h with|cons h hs=>cases hs;exact ⟨_,rfl,h⟩
theorem VRs.two {c d:AV} {vs:List Value} (h:VRs g [c,d] vs):∃v u,vs=[v,u]∧VR g c v∧VR g d u:=by
 cases h with|cons h hs=>obtain ⟨u,rfl,hu⟩:=hs.one;exact ⟨_,_,rfl,h,hu⟩
theorem VR.Xd {k:IntKind} {n:Int} {v:Value} (h:VR g (.d (.int k n)) v):v= .int k n∧k.has n:=by
 cases h with|d h=>cases h with|int h=>exact ⟨rfl,h⟩
theorem Rel.AAY (h:Rel base g Pr σ w0 w) {i:Nat} {a s:AV} {ty:TypeId} (hb:σ.blk i=some [a,s]) (ht:σ.bt i=some (2,ty)):
 ∃b x y,g.mu i=some b∧w.heap[b]?=some (.cells #[x,y] ty (0,0))∧VR g a x∧VR g s y∧base≤b∧¬Pr b∧Ak [a,s]=true:=by
 obtain ⟨b,hm,hs⟩:=h.shr i _ hb
 obtain ⟨vs,ty',hh,hl,hrt,hv⟩:=hs.row
 obtain ⟨h1,h2⟩:=hrt (2,ty) (h.st.2 i _ ht)
 simp only at h1 h2
 subst h2
 obtain ⟨x,y,hxy,hx,hy⟩:=hv.two
 have hvs:vs=#[x,y]:=by
  apply Array.toList_inj.1
  rw [← hxy,A8 (by simp [h1])]
 subst hvs
 exact ⟨b,x,y,hm,hh,hx,hy,hs.low,hs.pr,hs.ok⟩
theorem j6 {f:FuncId} (hc:∀(b:Nat) (w:World),w.cell? ⟨b,0,none⟩=some (.pointer (some ⟨b,0,none⟩))→Calls P f #[.pointer (some ⟨b,0,none⟩)] w fun e w'=>e= .returned (.tuple #[])∧w'=w)
 {i:Nat} {s:AV} {ty:TypeId} (hb:σ.blk i=some [.gp i 0,s]) (ht:σ.bt i=some (2,ty)):AP P f [.gp i 0] σ (fun v σ'=>v= .tup []∧σ'=σ):=by
 intro base g Pr w0 w vs hr hv
 obtain ⟨v,rfl,hvv⟩:=hv.one
 obtain ⟨b,x,y,hm,hh,hx,_,_,_,_⟩:=hr.AAY hb ht
 cases hvv with|gp h=>
 cases hx with|gp h'=>
 rw [hm] at h h';cases h;cases h'
 refine (hc b w (by simp [World.cell?,hh])).mono ?_
 rintro e w' ⟨rfl,rfl⟩
 exact ⟨_,.tup [],g,σ,rfl,.tup (vs:=[]) rfl (by simp),hr,Gh.le_refl g,KP.refl _ _,rfl,rfl⟩
theorem fS {f:FuncId} {ty:TypeId} (hc:∀(b:Nat) (w:World),w.cell? ⟨b,0,none⟩=some (.pointer none)→w.shape? b=some (ty,2)→w.frozen? ⟨b,0,none⟩=false→Calls P f #[.pointer (some ⟨b,0,none⟩)] w fun e w'=>e= .returned (.tuple #[])∧w'=w.setCell ⟨b,0,none⟩ (.pointer (some ⟨b,0,none⟩)))
 {i:Nat} {s:AV} (hb:σ.blk i=some [.Et,s]) (ht:σ.bt i=some (2,ty)):AP P f [.gp i 0] σ (fun v σ'=>v= .tup []∧σ'=σ.AL i [.gp i 0,s]):=by
 intro base g Pr w0 w vs hr hv
 obtain ⟨v,rfl,hvv⟩:=hv.one
 obtain ⟨b,x,y,hm,hh,hx,hy,hlow,hpr,hok⟩:=hr.AAY hb ht
 cases hvv with|gp h=>
 cases hx with|Et=>
 rw [hm] at h;cases h
 refine (hc b w (by simp [World.cell?,hh]) (by simp [World.shape?,hh]) (by simp [World.frozen?,hh])).mono ?_
 rintro e w' ⟨rfl,rfl⟩
 have hbel:Below base w (w.setCell ⟨b,0,none⟩ (.pointer (some ⟨b,0,none⟩))):=(Below.refl base w).setCell (p:=⟨b,0,none⟩) hlow _
 have hsz:(w.setCell ⟨b,0,none⟩ (.pointer (some ⟨b,0,none⟩))).heap.size=w.heap.size:=by simp [World.setCell]
 have hne:∀k,k≠b→(w.setCell ⟨b,0,none⟩ (.pointer (some ⟨b,0,none⟩))).heap[k]?=w.heap[k]?:=fun k hk=>by
  simp only [World.setCell,Qf]
  rw [if_neg (fun e=>hk e.symm)]
 have hat:(w.setCell ⟨b,0,none⟩ (.pointer (some ⟨b,0,none⟩))).heap[b]?=some (.cells #[.pointer (some ⟨b,0,none⟩),y] ty (0,0)):=by
  simp [World.setCell,Qf,hh]
 refine ⟨_,.tup [],g,σ.AL i [.gp i 0,s],rfl,.tup (vs:=[]) rfl (by simp),?_,Gh.le_refl g,⟨by omega,fun k hk=>hne k (fun e=>hpr (e ▸ hk))⟩,rfl,rfl⟩
 refine hr.write hb hm (by omega) (fun k _ hk=>hne k hk) hbel hat (by simp) (fun t he=>?_) ?_ ?_
 · have:=hr.st.2 i _ ht
   rw [this] at he;cases he;simp
 · simp only [AB,AE,Bb]
   exact .cons (.gp hm) (.cons hy .nil)
 · simp only [Ak,Bv,L8,BH,AN] at hok ⊢
   exact ⟨rfl,hok.2⟩
end Go.Ab
namespace Go.Proofs
open Go.Shelf
def Tryz.Wp:Go.Shelf.Ren:=⟨fun|240=>85|276=>136|n=>n,fun|70=>82|0=>0|72=>85|4=>4|164=>151|37=>83|5=>5|n=>n,fun|n=>n⟩
theorem Tryz.nP:Go.Proofs.Lays.n240 Tryz.prog Tryz.Wp:= {
 mixed:=by kernel_rfl
 f240:=Tryz.func85.trans (congrArg some (by kernel_rfl))
 f276:=Tryz.func136.trans (congrArg some (by kernel_rfl))
 t0:=Tryz.underlying0
 a0:=Tryz.isAgg0
 z0:=Tryz.sizeOf0
 v0:=Tryz.zeroValue0
 t4:=Tryz.underlying4
 a4:=Tryz.isAgg4
 z4:=Tryz.sizeOf4
 v4:=Tryz.zeroValue4
 t9:=Tryz.underlying9
 a9:=Tryz.isAgg9
 z9:=Tryz.sizeOf9
 v9:=Tryz.zeroValue9
 t20:=Tryz.underlying20
 a20:=Tryz.isAgg20
 z20:=Tryz.sizeOf20
 v20:=Tryz.zeroValue20
 t70:=Tryz.underlying82
 a70:=Tryz.isAgg82
 z70:=Tryz.sizeOf82
 v70:=Tryz.zeroValue82
 t72:=Tryz.underlying85
 a72:=Tryz.isAgg85
 z72:=Tryz.sizeOf85
 v72:=Tryz.zeroValue85
 t164:=Tryz.underlying151
 a164:=Tryz.isAgg151
 z164:=Tryz.sizeOf151
 v164:=Tryz.zeroValue151}
theorem Tryz.Qg:Builder.X72 Tryz.prog Tryz.Wp:= {
 sizeBuilder:=by kernel_rfl
 liesBuilder:=by kernel_rfl}
def Tryz.dY:Go.Shelf.Ren:=⟨fun|173=>146|246=>177|283=>191|284=>192|285=>193|286=>194|129=>200|317=>199|318=>201|319=>202|320=>203|337=>205|338=>206|n=>n,fun|2=>2|3=>3|9=>9|4=>4|171=>182|0=>0|53=>183|37=>83|5=>5|173=>186|212=>193|51=>194|20=>20|213=>195|46=>197|232=>201|233=>202|n=>n,fun|17=>1|18=>2|19=>3|n=>n⟩
theorem Tryz.tR:Go.Proofs.LaysM.n173 Tryz.prog Tryz.dY:= {
 mixed:=by kernel_rfl
 f129:=Tryz.func200.trans (congrArg some (by kernel_rfl))
 f173:=Tryz.func146.trans (congrArg some (by kernel_rfl))
 f246:=Tryz.func177.trans (congrArg some (by kernel_rfl))
 f283:=Tryz.func191.trans (congrArg some (by kernel_rfl))
 f284:=Tryz.func192.trans (congrArg some (by kernel_rfl))
 f285:=Tryz.func193.trans (congrArg some (by kernel_rfl))
 f286:=Tryz.func194.trans (congrArg some (by kernel_rfl))
 f317:=Tryz.func199.trans (congrArg some (by kernel_rfl))
 f318:=Tryz.func201.trans (congrArg some (by kernel_rfl))
 f319:=Tryz.func202.trans (congrArg some (by kernel_rfl))
 f320:=Tryz.func203.trans (congrArg some (by kernel_rfl))
 f337:=Tryz.func205.trans (congrArg some (by kernel_rfl))
 f338:=Tryz.func206.trans (congrArg some (by kernel_rfl))
 t0:=Tryz.underlying0
 a0:=Tryz.isAgg0
 z0:=Tryz.sizeOf0
 v0:=Tryz.zeroValue0
 t2:=Tryz.underlying2
 a2:=Tryz.isAgg2
 z2:=Tryz.sizeOf2
 v2:=Tryz.zeroValue2
 t3:=Tryz.underlying3
 a3:=Tryz.isAgg3
 z3:=Tryz.sizeOf3
 v3:=Tryz.zeroValue3
 t4:=Tryz.underlying4
 a4:=Tryz.isAgg4
 z4:=Tryz.sizeOf4
 v4:=Tryz.zeroValue4
 t5:=Tryz.underlying5
 a5:=Tryz.isAgg5
 z5:=Tryz.sizeOf5
 v5:=Tryz.zeroValue5
 t9:=Tryz.underlying9
 a9:=Tryz.isAgg9
 z9:=Tryz.sizeOf9
 v9:=Tryz.zeroValue9
 t20:=Tryz.underlying20
 a20:=Tryz.isAgg20
 z20:=Tryz.sizeOf20
 v20:=Tryz.zeroValue20
 t37:=Tryz.underlying83
 a37:=Tryz.isAgg83
 z37:=Tryz.sizeOf83
 v37:=Tryz.zeroValue83
 t46:=Tryz.underlying197
 a46:=Tryz.isAgg197
 z46:=Tryz.sizeOf197
 v46:=Tryz.zeroValue197
 t51:=Tryz.underlying194
 a51:=Tryz.isAgg194
 z51:=Tryz.sizeOf194
 v51:=Tryz.zeroValue194
 t53:=Tryz.underlying183
 a53:=Tryz.isAgg183
 z53:=Tryz.sizeOf183
 v53:=Tryz.zeroValue183
 t171:=Tryz.underlying182
 a171:=Tryz.isAgg182
 z171:=Tryz.sizeOf182
 v171:=Tryz.zeroValue182
 t173:=Tryz.underlying186
 a173:=Tryz.isAgg186
 z173:=Tryz.sizeOf186
 v173:=Tryz.zeroValue186
 t212:=Tryz.underlying193
 a212:=Tryz.isAgg193
 z212:=Tryz.sizeOf193
 v212:=Tryz.zeroValue193
 t213:=Tryz.underlying195
 a213:=Tryz.isAgg195
 z213:=Tryz.sizeOf195
 t232:=Tryz.underlying201
 a232:=Tryz.isAgg201
 z232:=Tryz.sizeOf201
 v232:=Tryz.zeroValue201
 t233:=Tryz.underlying202
 a233:=Tryz.isAgg202
 z233:=Tryz.sizeOf202
 v233:=Tryz.zeroValue202
 g17:=by kernel_rfl
 g18:=by kernel_rfl
 g19:=by kernel_rfl
 i0:=by kernel_rfl
 i2:=by kernel_rfl
 i3:=by kernel_rfl
 i4:=by kernel_rfl
 i5:=by kernel_rfl
 i9:=by kernel_rfl
 i20:=by kernel_rfl
 i37:=by kernel_rfl
 i46:=by kernel_rfl
 i51:=by kernel_rfl
 i53:=by kernel_rfl
 i171:=by kernel_rfl
 i173:=by kernel_rfl
 i212:=by kernel_rfl
 i232:=by kernel_rfl
 i233:=by kernel_rfl
 m17:=by kernel_rfl
 m18:=by kernel_rfl
 m19:=by kernel_rfl}
def Tryz.Wn:Go.Shelf.Ren:=⟨fun|156=>44|165=>86|166=>43|169=>46|240=>85|241=>137|276=>136|277=>175|n=>n,fun|31=>40|9=>9|3=>3|4=>4|0=>0|20=>20|72=>85|76=>91|70=>82|37=>83|75=>90|127=>134|164=>151|5=>5|80=>95|n=>n,fun|n=>n⟩
theorem Tryz.nO:Go.Proofs.Lays.n156 Tryz.prog Tryz.Wn:= {
 mixed:=by kernel_rfl
 f156:=Tryz.func44.trans (congrArg some (by kernel_rfl))
 f165:=Tryz.func86.trans (congrArg some (by kernel_rfl))
 f166:=Tryz.func43.trans (congrArg some (by kernel_rfl))
 f169:=Tryz.func46.trans (congrArg some (by kernel_rfl))
 f240:=Tryz.func85.trans (congrArg some (by kernel_rfl))
 f241:=Tryz.func137.trans (congrArg some (by kernel_rfl))
 f276:=Tryz.func136.trans (congrArg some (by kernel_rfl))
 f277:=Tryz.func175.trans (congrArg some (by kernel_rfl))
 t0:=Tryz.underlying0
 a0:=Tryz.isAgg0
 z0:=Tryz.sizeOf0
 v0:=Tryz.zeroValue0
 t3:=Tryz.underlying3
 a3:=Tryz.isAgg3
 z3:=Tryz.sizeOf3
 v3:=Tryz.zeroValue3
 t4:=Tryz.underlying4
 a4:=Tryz.isAgg4
 z4:=Tryz.sizeOf4
 v4:=Tryz.zeroValue4
 t9:=Tryz.underlying9
 a9:=Tryz.isAgg9
 z9:=Tryz.sizeOf9
 v9:=Tryz.zeroValue9
 t20:=Tryz.underlying20
 a20:=Tryz.isAgg20
 z20:=Tryz.sizeOf20
 v20:=Tryz.zeroValue20
 t31:=Tryz.underlying40
 a31:=Tryz.isAgg40
 z31:=Tryz.sizeOf40
 v31:=Tryz.zeroValue40
 t37:=Tryz.underlying83
 a37:=Tryz.isAgg83
 z37:=Tryz.sizeOf83
 v37:=Tryz.zeroValue83
 t70:=Tryz.underlying82
 a70:=Tryz.isAgg82
 z70:=Tryz.sizeOf82
 v70:=Tryz.zeroValue82
 t72:=Tryz.underlying85
 a72:=Tryz.isAgg85
 z72:=Tryz.sizeOf85
 v72:=Tryz.zeroValue85
 t75:=Tryz.underlying90
 a75:=Tryz.isAgg90
 z75:=Tryz.sizeOf90
 v75:=Tryz.zeroValue90
 t76:=Tryz.underlying91
 a76:=Tryz.isAgg91
 z76:=Tryz.sizeOf91
 v76:=Tryz.zeroValue91
 t127:=Tryz.underlying134
 a127:=Tryz.isAgg134
 z127:=Tryz.sizeOf134
 v127:=Tryz.zeroValue134
 t164:=Tryz.underlying151
 a164:=Tryz.isAgg151
 z164:=Tryz.sizeOf151
 v164:=Tryz.zeroValue151}
theorem Tryz.Nz:Builder.Extra Tryz.prog Tryz.Wn:= {
 sizeBuilder:=by kernel_rfl
 liesBuilder:=by kernel_rfl
 t5:=Tryz.underlying5
 a5:=Tryz.isAgg5
 z5:=Tryz.sizeOf5
 v5:=Tryz.zeroValue5
 infoByte:=by kernel_rfl
 cellsByte:=by kernel_rfl
 sizeByte:=by kernel_rfl
 neB5:=by decide}
def Tryz.dX:Go.Shelf.Ren:=⟨fun|174=>215|247=>217|245=>218|287=>219|279=>220|280=>221|281=>222|282=>223|321=>224|322=>225|316=>226|171=>228|205=>227|243=>229|246=>177|283=>191|284=>192|285=>193|286=>194|129=>200|317=>199|318=>201|319=>202|320=>203|337=>205|338=>206|n=>n,fun|9=>9|3=>3|2=>2|75=>90|85=>204|4=>4|167=>208|5=>5|53=>183|175=>209|46=>197|168=>211|37=>83|0=>0|210=>216|21=>21|127=>134|145=>220|143=>218|171=>182|173=>186|212=>193|51=>194|20=>20|213=>195|232=>201|233=>202|80=>95|n=>n,fun|15=>4|16=>5|17=>1|18=>2|19=>3|n=>n⟩
theorem Tryz.gR:Go.Proofs.LaysC.n174 Tryz.prog Tryz.dX:= {
 mixed:=by kernel_rfl
 f129:=Tryz.func200.trans (congrArg some (by kernel_rfl))
 f171:=Tryz.func228.trans (congrArg some (by kernel_rfl))
 f174:=Tryz.func215.trans (congrArg some (by kernel_rfl))
 f205:=Tryz.func227.trans (congrArg some (by kernel_rfl))
 f243:=Tryz.func229.trans (congrArg some (by kernel_rfl))
 f245:=Tryz.func218.trans (congrArg some (by kernel_rfl))
 f246:=Tryz.func177.trans (congrArg some (by kernel_rfl))
 f247:=Tryz.func217.trans (congrArg some (by kernel_rfl))
 f279:=Tryz.func220.trans (congrArg some (by kernel_rfl))
 f280:=Tryz.func221.trans (congrArg some (by kernel_rfl))
 f281:=Tryz.func222.trans (congrArg some (by kernel_rfl))
 f282:=Tryz.func223.trans (congrArg some (by kernel_rfl))
 f283:=Tryz.func191.trans (congrArg some (by kernel_rfl))
 f284:=Tryz.func192.trans (congrArg some (by kernel_rfl))
 f285:=Tryz.func193.trans (congrArg some (by kernel_rfl))
 f286:=Tryz.func194.trans (congrArg some (by kernel_rfl))
 f287:=Tryz.func219.trans (congrArg some (by kernel_rfl))
 f316:=Tryz.func226.trans (congrArg some (by kernel_rfl))
 f317:=Tryz.func199.trans (congrArg some (by kernel_rfl))
 f318:=Tryz.func201.trans (congrArg some (by kernel_rfl))
 f319:=Tryz.func202.trans (congrArg some (by kernel_rfl))
 f320:=Tryz.func203.trans (congrArg some (by kernel_rfl))
 f321:=Tryz.func224.trans (congrArg some (by kernel_rfl))
 f322:=Tryz.func225.trans (congrArg some (by kernel_rfl))
 f337:=Tryz.func205.trans (congrArg some (by kernel_rfl))
 f338:=Tryz.func206.trans (congrArg some (by kernel_rfl))
 t0:=Tryz.underlying0
 a0:=Tryz.isAgg0
 z0:=Tryz.sizeOf0
 v0:=Tryz.zeroValue0
 t2:=Tryz.underlying2
 a2:=Tryz.isAgg2
 z2:=Tryz.sizeOf2
 v2:=Tryz.zeroValue2
 t3:=Tryz.underlying3
 a3:=Tryz.isAgg3
 z3:=Tryz.sizeOf3
 v3:=Tryz.zeroValue3
 t4:=Tryz.underlying4
 a4:=Tryz.isAgg4
 z4:=Tryz.sizeOf4
 v4:=Tryz.zeroValue4
 t5:=Tryz.underlying5
 a5:=Tryz.isAgg5
 z5:=Tryz.sizeOf5
 v5:=Tryz.zeroValue5
 t9:=Tryz.underlying9
 a9:=Tryz.isAgg9
 z9:=Tryz.sizeOf9
 v9:=Tryz.zeroValue9
 t20:=Tryz.underlying20
 a20:=Tryz.isAgg20
 z20:=Tryz.sizeOf20
 v20:=Tryz.zeroValue20
 t21:=Tryz.underlying21
 a21:=Tryz.isAgg21
 z21:=Tryz.sizeOf21
 v21:=Tryz.zeroValue21
 t37:=Tryz.underlying83
 a37:=Tryz.isAgg83
 z37:=Tryz.sizeOf83
 v37:=Tryz.zeroValue83
 t46:=Tryz.underlying197
 a46:=Tryz.isAgg197
 z46:=Tryz.sizeOf197
 v46:=Tryz.zeroValue197
 t51:=Tryz.underlying194
 a51:=Tryz.isAgg194
 z51:=Tryz.sizeOf194
 v51:=Tryz.zeroValue194
 t53:=Tryz.underlying183
 a53:=Tryz.isAgg183
 z53:=Tryz.sizeOf183
 v53:=Tryz.zeroValue183
 t75:=Tryz.underlying90
 a75:=Tryz.isAgg90
 z75:=Tryz.sizeOf90
 v75:=Tryz.zeroValue90
 t85:=Tryz.underlying204
 a85:=Tryz.isAgg204
 z85:=Tryz.sizeOf204
 v85:=Tryz.zeroValue204
 t127:=Tryz.underlying134
 a127:=Tryz.isAgg134
 z127:=Tryz.sizeOf134
 v127:=Tryz.zeroValue134
 t143:=Tryz.underlying218
 a143:=Tryz.isAgg218
 z143:=Tryz.sizeOf218
 v143:=Tryz.zeroValue218
 t145:=Tryz.underlying220
 a145:=Tryz.isAgg220
 z145:=Tryz.sizeOf220
 v145:=Tryz.zeroValue220
 t167:=Tryz.underlying208
 a167:=Tryz.isAgg208
 z167:=Tryz.sizeOf208
 v167:=Tryz.zeroValue208
 t168:=Tryz.underlying211
 a168:=Tryz.isAgg211
 z168:=Tryz.sizeOf211
 v168:=Tryz.zeroValue211
 t171:=Tryz.underlying182
 a171:=Tryz.isAgg182
 z171:=Tryz.sizeOf182
 v171:=Tryz.zeroValue182
 t173:=Tryz.underlying186
 a173:=Tryz.isAgg186
 z173:=Tryz.sizeOf186
 v173:=Tryz.zeroValue186
 t175:=Tryz.underlying209
 a175:=Tryz.isAgg209
 z175:=Tryz.sizeOf209
 v175:=Tryz.zeroValue209
 t210:=Tryz.underlying216
 a210:=Tryz.isAgg216
 z210:=Tryz.sizeOf216
 v210:=Tryz.zeroValue216
 t212:=Tryz.underlying193
 a212:=Tryz.isAgg193
 z212:=Tryz.sizeOf193
 v212:=Tryz.zeroValue193
 t213:=Tryz.underlying195
 a213:=Tryz.isAgg195
 z213:=Tryz.sizeOf195
 t232:=Tryz.underlying201
 a232:=Tryz.isAgg201
 z232:=Tryz.sizeOf201
 v232:=Tryz.zeroValue201
 t233:=Tryz.underlying202
 a233:=Tryz.isAgg202
 z233:=Tryz.sizeOf202
 v233:=Tryz.zeroValue202
 g15:=by kernel_rfl
 g16:=by kernel_rfl
 g17:=by kernel_rfl
 g18:=by kernel_rfl
 g19:=by kernel_rfl
 t80:=Tryz.underlying95
 a80:=Tryz.isAgg95
 z80:=Tryz.sizeOf95
 v80:=Tryz.zeroValue95
 i0:=by kernel_rfl
 i2:=by kernel_rfl
 i3:=by kernel_rfl
 i4:=by kernel_rfl
 i5:=by kernel_rfl
 i9:=by kernel_rfl
 i20:=by kernel_rfl
 i21:=by kernel_rfl
 i37:=by kernel_rfl
 i46:=by kernel_rfl
 i51:=by kernel_rfl
 i53:=by kernel_rfl
 i75:=by kernel_rfl
 i80:=by kernel_rfl
 i85:=by kernel_rfl
 i127:=by kernel_rfl
 i143:=by kernel_rfl
 i145:=by kernel_rfl
 i167:=by kernel_rfl
 i168:=by kernel_rfl
 i171:=by kernel_rfl
 i173:=by kernel_rfl
 i175:=by kernel_rfl
 i210:=by kernel_rfl
 i212:=by kernel_rfl
 i232:=by kernel_rfl
 i233:=by kernel_rfl
 m15:=by kernel_rfl
 m16:=by kernel_rfl
 m17:=by kernel_rfl
 m18:=by kernel_rfl
 m19:=by kernel_rfl
 c0:=by kernel_rfl
 c2:=by kernel_rfl
 c3:=by kernel_rfl
 c4:=by kernel_rfl
 c5:=by kernel_rfl
 c9:=by kernel_rfl
 c20:=by kernel_rfl
 c21:=by kernel_rfl
 c37:=by kernel_rfl
 c46:=by kernel_rfl
 c51:=by kernel_rfl
 c53:=by kernel_rfl
 c75:=by kernel_rfl
 c80:=by kernel_rfl
 c85:=by kernel_rfl
 c127:=by kernel_rfl
 c143:=by kernel_rfl
 c145:=by kernel_rfl
 c167:=by kernel_rfl
 c168:=by kernel_rfl
 c171:=by kernel_rfl
 c173:=by kernel_rfl
 c175:=by kernel_rfl
 c210:=by kernel_rfl
 c212:=by kernel_rfl
 c213:=by kernel_rfl
 c232:=by kernel_rfl
 c233:=by kernel_rfl}
end Go.Proofs
namespace Go.Ab
open Go.Proofs
def M9 (n:Int):Bool:=decide (97≤n)&&decide (n≤122)
def K9 (n:Int):Bool:=decide (65≤n)&&decide (n≤90)
def Em (n:Int):Bool:=decide (48≤n)&&decide (n≤57)
def GW (n:Int):Bool:=M9 n||K9 n||Em n||(n==95)
def US (n:Int):Bool:=(n==9)||(n==10)||(n==13)||(n==32)
theorem Sq (n:Int) (σ:AM):AP Tryz.prog 112 [.d (.int .u8 n)] σ (fun v σ'=>v= .d (.bool (M9 n))∧σ'=σ):=by
 refine aJ (by simp) ?_
 rw [Av]
 (repeat' (first|refine Run.ct rfl ?_|((first|refine Run.reg mixed ?_|refine Run.AJ ?_|refine Run.Ad UC (AM.le_refl _) ?_|(refine AQ rfl (fun h=>?_) (fun h=>?_)<;>try (cases h;done)))<;>try simp -implicitDefEqProofs only [go_sem])|fail))
 all_goals (simp_all [M9];try omega)
theorem Sr (n:Int) (σ:AM):AP Tryz.prog 113 [.d (.int .u8 n)] σ (fun v σ'=>v= .d (.bool (K9 n))∧σ'=σ):=by
 refine aL (by simp) ?_
 rw [Av]
 (repeat' (first|refine Run.ct rfl ?_|((first|refine Run.reg mixed ?_|refine Run.AJ ?_|refine Run.Ad UD (AM.le_refl _) ?_|(refine AQ rfl (fun h=>?_) (fun h=>?_)<;>try (cases h;done)))<;>try simp -implicitDefEqProofs only [go_sem])|fail))
 all_goals (simp_all [K9];try omega)
theorem N5 (n:Int) (σ:AM):AP Tryz.prog 117 [.d (.int .u8 n)] σ (fun v σ'=>v= .d (.bool (Em n))∧σ'=σ):=by
 refine aI (by simp) ?_
 rw [Av]
 (repeat' (first|refine Run.ct rfl ?_|((first|refine Run.reg mixed ?_|refine Run.AJ ?_|refine Run.Ad UB (AM.le_refl _) ?_|(refine AQ rfl (fun h=>?_) (fun h=>?_)<;>try (cases h;done)))<;>try simp -implicitDefEqProofs only [go_sem])|fail))
 all_goals (simp_all [Em];try omega)
theorem Ii (n:Int) (σ:AM):AP Tryz.prog 69 [.d (.int .u8 n)] σ (fun v σ'=>v= .d (.bool (M9 n))∧σ'=σ):=by
 refine kL (by simp) ?_
 rw [Av]
 (repeat' (first|refine Run.ct rfl ?_|((first|refine Run.reg mixed ?_|refine Run.AJ ?_|refine Run.Ad Y2 (AM.le_refl _) ?_|(refine AQ rfl (fun h=>?_) (fun h=>?_)<;>try (cases h;done)))<;>try simp -implicitDefEqProofs only [go_sem])|fail))
 all_goals (simp_all [M9];try omega)
theorem Ij (n:Int) (σ:AM):AP Tryz.prog 70 [.d (.int .u8 n)] σ (fun v σ'=>v= .d (.bool (K9 n))∧σ'=σ):=by
 refine kM (by simp) ?_
 rw [Av]
 (repeat' (first|refine Run.ct rfl ?_|((first|refine Run.reg mixed ?_|refine Run.AJ ?_|refine Run.Ad Y3 (AM.le_refl _) ?_|(refine AQ rfl (fun h=>?_) (fun h=>?_)<;>try (cases h;done)))<;>try simp -implicitDefEqProofs only [go_sem])|fail))
 all_goals (simp_all [K9];try omega)
theorem HT (n:Int) (σ:AM):AP Tryz.prog 71 [.d (.int .u8 n)] σ (fun v σ'=>v= .d (.bool (Em n))∧σ'=σ):=by
 refine kK (by simp) ?_
 rw [Av]
 (repeat' (first|refine Run.ct rfl ?_|((first|refine Run.reg mixed ?_|refine Run.AJ ?_|refine Run.Ad Y1 (AM.le_refl _) ?_|(refine AQ rfl (fun h=>?_) (fun h=>?_)<;>try (cases h;done)))<;>try simp -implicitDefEqProofs only [go_sem])|fail))
 all_goals (simp_all [Em];try omega)
theorem J5 (n:Int) (σ:AM):AP Tryz.prog 58 [.d (.int .u8 n)] σ (fun v σ'=>v= .d (.bool (US n))∧σ'=σ):=by
 refine aH (by simp) ?_
 rw [Av]
 (repeat' (first|refine Run.ct rfl ?_|((first|refine Run.reg mixed ?_|refine Run.AJ ?_|refine Run.Ad UA (AM.le_refl _) ?_|(refine AQ rfl (fun h=>?_) (fun h=>?_)<;>try (cases h;done)))<;>try simp -implicitDefEqProofs only [go_sem])|fail))
 all_goals simp_all [US]
theorem X7 (n:Int) (σ:AM):AP Tryz.prog 115 [.d (.int .u8 n)] σ (fun v σ'=>v= .d (.bool (GW n))∧σ'=σ):=by
 refine Yf (by simp) ?_
 rw [Av]
 (repeat' (first|refine Run.ct rfl ?_|((first|refine Run.reg mixed ?_|refine Run.AJ ?_|refine Run.Ad SB (AM.le_refl _) ?_|refine AH.det (Sq _ _) ?_|refine AH.det (Sr _ _) ?_|refine AH.det (N5 _ _) ?_|(refine AQ rfl (fun h=>?_) (fun h=>?_)<;>try (cases h;done)))<;>try simp -implicitDefEqProofs only [go_sem])|fail))
 all_goals simp_all [GW]
def FP:List Str:=[[97,114,114,97,121],[98,111,111,108],[99,97,116,99,104],[100,97,116,97],[101,108,115,101],[101,110,100],[102,97,108,115,101],[102,110],[102,117,110],[103,101,116],[105,102],[105,110],[105,110,116],[108,101,110],[108,101,116],[109,97,116,99,104],[110,101,119],[114,97,105,115,101],[114,101,97,100],[114,101,102],[115,101,116],[116,104,101,110],[116,105,99,107],[116,114,117,101],[116,114,121],[117,110,105,116],[119,105,116,104],[119,114,105,116,101]]
def S0 (s:Str):Bool:=FP.any (s==·)
set_option maxHeartbeats 4000000 in
theorem W5 (s:Str) (σ:AM):AP Tryz.prog 116 [.d (.str s)] σ (fun v σ'=>v= .d (.bool (S0 s))∧σ'=σ):=by
 refine XN (by simp) ?_
 rw [Av]
 (repeat' (first|refine Run.ct rfl ?_|((first|refine Run.reg mixed ?_|refine Run.AJ ?_|refine Run.Ad Qs (AM.le_refl _) ?_)<;>try simp -implicitDefEqProofs only [go_sem])|(refine ⟨fun h=>?_,fun h=>?_⟩<;>first|(cases h;done)|try simp only [h])|fail))
 all_goals simp only [S0,FP,List.any_cons,List.any_nil,Mm,Ml,Bool.true_or,Od,and_self, *]
end Go.Ab
