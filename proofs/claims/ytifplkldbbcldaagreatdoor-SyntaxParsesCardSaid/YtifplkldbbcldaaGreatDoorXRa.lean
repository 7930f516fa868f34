/- The builder inside the printer: the check at a fresh one. The printer's builder. The reference's texts: joins, numbers, names, levels. Lists of the printer: separated, optional. Conditions: none. -/
import Derived.Test.YtifplkldbbcldaaGreatDoorXRl
set_option linter.unusedSimpArgs false
set_option linter.unusedVariables false
set_option maxRecDepth 4000
set_option maxHeartbeats 8000000
open Option renaming map_eq_some_iff→AM
open Nat renaming le_trans→Ay
open List renaming map_cons→AB,length_cons→AG,length_eq_zero_iff→OE,getElem?_cons_zero→F8,getElem?_eq_some_iff→A3,flatten_cons→F7,append_assoc→AY,length_append→AA,length_map→AJ,mem_of_getElem?→Aa,getElem?_map→BC,all_append→Ce,append_nil→Ap,map_nil→AE,length_nil→AI,eq_nil_of_length_eq_zero→An
open Option.some renaming injEq→AQ
open Bool renaming and_true→BR,true_and→Bg
namespace Go.Ab
open Go.RowKit Go.Sort Go.Proofs Go.Shelf
set_option maxHeartbeats 1000000 in
set_option maxRecDepth 100000 in
theorem sL {P:Program} {ρ:Ren} (L:Lays.n240 P ρ) (X:Builder.X72 P ρ) {T:TypeId} (hl:liesAt P P.depth T (2 / P.cellsOf T) 0 (ρ.t 72) 1=true) (b:Nat) (w:World) (h0:w.cell? ⟨b,0,none⟩=some (.pointer none)) (hsh:w.shape? b=some (T,2)) (hfz:w.frozen? ⟨b,0,none⟩=false):
 Calls P (ρ.f 240) #[.pointer (some ⟨b,0,none⟩)] w fun e w'=>e= .returned (.tuple #[])∧w'=w.setCell ⟨b,0,none⟩ (.pointer (some ⟨b,0,none⟩)):=by
 obtain ⟨j,hj,hjs⟩:=AM.1 X.sizeBuilder
 have mixed:=L.mixed
 have t72:=L.t72;have a72:=L.a72;have z72:=L.z72;have v72:=L.v72;have u72:=run_underlying L.t72
 have t70:=L.t70;have a70:=L.a70;have z70:=L.z70;have v70:=L.v70;have u70:=run_underlying L.t70
 have t9:=L.t9;have a9:=L.a9;have z9:=L.z9;have v9:=L.v9;have u9:=run_underlying L.t9
 have t4:=L.t4;have a4:=L.a4;have z4:=L.z4;have v4:=L.v4;have u4:=run_underlying L.t4
 have t164:=L.t164;have a164:=L.a164;have z164:=L.z164;have v164:=L.v164;have u164:=run_underlying L.t164
 go_enter L.f240,Body.n240_ntmps ρ
 go_wp2
 rw [Lib.run_to_unsafe w ⟨b,0,none⟩ L.t70 L.t164 hj (by rw [hjs];decide) hsh (Nat.zero_lt_succ 1)]
 simp only [Result.andThen]
 rw [Oper.upon_value]
 go_wp2
 rw [run_callFunc_extern L.f276 (by kernel_rfl) (by kernel_rfl) (by kernel_rfl) (e:=Extern.AbiNoEscape.same) (by kernel_rfl)]
 rw [Lib.run_noEscape]
 simp only [Result.andThen]
 rw [Oper.upon_value]
 go_wp2
 rw [Lib.run_from_unsafe w ⟨b,0,none⟩ L.t164 L.t70 hj hsh hl]
 simp only [Result.andThen]
 rw [Oper.upon_value]
 go_wp2
 go_end0
 exact ⟨rfl,rfl⟩
theorem cT {σ:AK} {i:Nat} {s:AV} (hb:σ.blk i=some [.FN,s]) (ht:σ.bt i=some (2,87)):AP Tryz.prog 85 [.gp i 0] σ (fun v σ'=>v= .tup []∧σ'=σ.AH i [.gp i 0,s]):=
 iI (fun b w h0 hsh hfz=>sL Tryz.oX Tryz.RL (by kernel_rfl) b w h0 hsh hfz) hb ht
end Go.Ab
namespace Go.Proofs
open Go.Shelf
def Tryz.Xq:Go.Shelf.Ren:=⟨fun|169=>46|n=>n,fun|70=>82|9=>9|0=>0|72=>85|37=>83|127=>134|3=>3|5=>5|n=>n,fun|n=>n⟩
theorem Tryz.zE:Lays.n169 Tryz.prog Tryz.Xq:= {
 mixed:=by kernel_rfl
 f169:=Tryz.func46.trans (congrArg some (by kernel_rfl))
 t0:=Tryz.underlying0
 a0:=Tryz.isAgg0
 z0:=Tryz.sizeOf0
 v0:=Tryz.zeroValue0
 t3:=Tryz.underlying3
 a3:=Tryz.isAgg3
 z3:=Tryz.sizeOf3
 v3:=Tryz.zeroValue3
 t9:=Tryz.underlying9
 a9:=Tryz.isAgg9
 z9:=Tryz.sizeOf9
 v9:=Tryz.zeroValue9
 t37:=Tryz.underlying83
 a37:=Tryz.isAgg83
 z37:=Tryz.sizeOf83
 v37:=Tryz.zeroValue83
 t70:=Tryz.underlying82
 a70:=Tryz.isAgg82
 z70:=Tryz.sizeOf82
 v70:=Tryz.zeroValue82
 t72:=Tryz.underlying85
 a72:=Tryz.isAgg85
 z72:=Tryz.sizeOf85
 v72:=Tryz.zeroValue85
 t127:=Tryz.underlying134
 a127:=Tryz.isAgg134
 z127:=Tryz.sizeOf134
 v127:=Tryz.zeroValue134}
theorem Tryz.VX:Builder.Extra Tryz.prog Tryz.Xq:= {
 sizeBuilder:=by kernel_rfl
 liesBuilder:=by kernel_rfl
 t5:=Tryz.underlying5
 a5:=Tryz.isAgg5
 z5:=Tryz.sizeOf5
 v5:=Tryz.zeroValue5
 infoByte:=by kernel_rfl
 cellsByte:=by kernel_rfl
 sizeByte:=by kernel_rfl
 neB5:=by decide}
end Go.Proofs
namespace Go.Ab
open Go.RowKit Go.Sort Go.Proofs Go.Shelf
set_option maxHeartbeats 2000000 in
set_option maxRecDepth 100000 in
theorem aD {P:Program} {ρ:Ren} (L:Lays.n169 P ρ) (X:Builder.Extra P ρ) {T:TypeId} (B b:Nat) (p:Value) (w:World) (hbk:w.heap[b]?=some (.cells #[p,.slice none 0 0] T (0,0))):
 Calls P (ρ.f 169) #[.pointer (some ⟨b,0,none⟩)] w fun e w'=>e= .returned (.string ⟨#[]⟩)∧Below B w w':=by
 have hUS:=Any.unsafeString_none L X
 have c1:w.drew.cell? ⟨b,1,none⟩=some (.slice none 0 0):=by
  have:w.drew.heap[b]?=some (.cells #[p,.slice none 0 0] T (0,0)):=hbk
  rw [Lib.cell_of_heap this];rfl
 have hSD:(Builtin.unsafeSliceData_ #[(ρ.t 37)] (ρ.t 127) #[.slice none 0 0]).run P w.drew= .ok (.pointer none) w.drew:=rfl
 have mixed:=L.mixed
 have t72:=L.t72;have a72:=L.a72;have z72:=L.z72;have v72:=L.v72;have u72:=run_underlying L.t72
 have t70:=L.t70;have a70:=L.a70;have z70:=L.z70;have v70:=L.v70;have u70:=run_underlying L.t70
 have t37:=L.t37;have a37:=L.a37;have z37:=L.z37;have v37:=L.v37;have u37:=run_underlying L.t37
 have t127:=L.t127;have a127:=L.a127;have z127:=L.z127;have v127:=L.v127;have u127:=run_underlying L.t127
 have t3:=L.t3;have a3:=L.a3;have z3:=L.z3;have v3:=L.v3;have u3:=run_underlying L.t3
 have t9:=L.t9;have a9:=L.a9;have z9:=L.z9;have v9:=L.v9;have u9:=run_underlying L.t9
 have t5:=X.t5;have a5:=X.a5;have z5:=X.z5;have v5:=X.v5;have u5:=run_underlying X.t5
 go_enter L.f169,Body.n169_ntmps ρ
 go_wp2
 go_region_o
 all_goals (go_wp2;go_ret;exact ⟨rfl,Below.drew (Below.refl B w)⟩)
theorem bN {σ:AK} {i:Nat} {p:AV} {ty:TypeId} (hb:σ.blk i=some [p,.AO]) (ht:σ.bt i=some (2,ty)):AP Tryz.prog 46 [.gp i 0] σ (fun v σ'=>v= .d (.str [])∧σ'=σ):=by
 intro base g Pr w0 w vs hr hv
 obtain ⟨v,rfl,hvv⟩:=hv.one
 obtain ⟨b,x,y,hm,hh,hx,hy,hlow,hpr,hok⟩:=hr.ACQ hb ht
 cases hvv with|gp h=>
 cases hy with|AO=>
 rw [hm] at h;cases h
 refine (aD Tryz.zE Tryz.VX w.heap.size b x w hh).mono ?_
 rintro e w' ⟨rfl,hb⟩
 obtain ⟨k1,k2⟩:=hr.below hb
 exact ⟨_,_,g,σ,rfl,.d (.str (by decide)),k1,Gh.le_refl g,k2,rfl,rfl⟩
end Go.Ab
namespace Go.Ab
open Go.Proofs
structure BuS (σ0:AK) (i:Nat) (s:List UInt8) (σ:AK):Prop where
 fresh:σ0.blk i=none
 Zb:σ0.bt i=none
 le:σ0.le σ
 bt:σ.bt i=some (2,87)
 blk:∃p v,σ.blk i=some [p,v]∧(p= .FN∨p= .gp i 0)∧((v= .AO∧s=[])∨(∃t,v= .own t 5 1 (BI s)∧σ.tok t=true∧σ0.tok t=false))
theorem qR {σ:AK} {i:Nat} (h:σ.blk i=none∧σ.bt i=none):BuS σ i [] ((σ.AH i [.FN,.AO]).HI i (2,87)) where
 fresh:=h.1
 Zb:=h.2
 le:=⟨fun j cs hj=>by
  have hne:j≠i:=fun e=>by rw [e,h.1] at hj;cases hj
  simp [AK.HI,AK.AH,hne,hj],fun _ h=>h,rfl,fun j x hj=>by
  have hne:j≠i:=fun e=>by rw [e,h.2] at hj;cases hj
  simp [AK.HI,AK.AH,hne,hj]⟩
 bt:=by simp [AK.HI]
 blk:=⟨.FN,.AO,by simp [AK.HI,AK.AH],.inl rfl,.inl ⟨rfl,rfl⟩⟩
theorem cS {σ0 σ:AK} {i:Nat} {s:List UInt8} (h:BuS σ0 i s σ):AP Tryz.prog 85 [.gp i 0] σ (fun v σ'=>v= .tup []∧BuS σ0 i s σ'∧∃v,σ'.blk i=some [.gp i 0,v]∧((v= .AO∧s=[])∨(∃t,v= .own t 5 1 (BI s)∧σ'.tok t=true∧σ0.tok t=false))):=by
 obtain ⟨p,v,hb,hp|hp,hv⟩:=h.blk
 · subst hp
   refine (cT hb h.bt).mono ?_
   rintro v' σ' ⟨rfl,rfl⟩
   have hn:(σ.AH i [.gp i 0,v]).blk i=some [.gp i 0,v]:=by simp [AZ]
   refine ⟨rfl,⟨h.fresh,h.Zb,⟨fun j cs hj=>?_,h.le.tok,h.le.gt,h.le.bt⟩,h.bt,.gp i 0,v,hn,.inr rfl,hv⟩,v,hn,hv⟩
   have hne:j≠i:=fun e=>by rw [e,h.fresh] at hj;cases hj
   simp [AZ,hne,h.le.blk j cs hj]
 · subst hp
   refine (Vh hb h.bt).mono ?_
   rintro v' σ' ⟨rfl,rfl⟩
   exact ⟨rfl,h,v,hb,hv⟩
theorem Ha {a b:List UInt8} (h:a.length+b.length≤100000000000000):gV .add a b=some (.d (.str (a++b))):=by
 have hm:a.length+b.length≤maxLen:=Ay h (by decide+kernel)
 simp [gV,hm]
theorem fM (s x:List UInt8):BI s++BI x=BI (s++x):=by simp [BI]
theorem RN (s:List UInt8):(BI s).length=s.length:=by simp [BI]
theorem A0 {σ0 σ:AK} {i:Nat} {s:List UInt8} (x:List UInt8) (h:BuS σ0 i s σ) (hl:s.length+x.length≤100000000000000):
 AP Tryz.prog 43 [.gp i 0,.d (.str x)] σ (fun v σ'=>v= .tup [.d (.int .i64 x.length),.undef]∧BuS σ0 i (s++x) σ'):=by
 refine L8 (by simp) ?_
 rw [BH]
 (repeat' (first|refine ctQ rfl ?_|((first|refine rgQ mxQ ?_|refine cdQ ?_|(refine AD.mk rfl (cS h) ?_))<;>try simp -implicitDefEqProofs only [go_sem])|fail))
 rintro _ σ1 ⟨rfl,hbu,v,hblk,hv⟩
 have hcell:v.CB=true∧v.BL=true∧v.cells=[v]:=by
  rcases hv with ⟨rfl,_⟩|⟨t,rfl,_⟩<;>exact ⟨rfl,rfl,rfl⟩
 (repeat' (first|refine ctQ rfl ?_|((first|refine rgQ mxQ ?_|refine cdQ ?_)<;>try simp -implicitDefEqProofs only [hblk,hcell.1,go_sem])|fail))
 have happ:∃σ2,QA σ1 5 1 v=some (BI s,σ2)∧(∀j,σ2.blk j=σ1.blk j)∧σ0.le σ2∧σ2.bt=σ1.bt∧(∀t,σ2.tok t=true→σ1.tok t=true):=by
  rcases hv with ⟨rfl,rfl⟩|⟨t,rfl,ht,ht0⟩
  · exact ⟨σ1,rfl,fun _=>rfl,hbu.le,rfl,fun _ h=>h⟩
  · refine ⟨σ1.FL t,by simp [QA,ht],fun _=>rfl,⟨hbu.le.blk,fun u hu=>?_,hbu.le.gt,hbu.le.bt⟩,rfl,fun u hu=>?_⟩
    · have hne:u≠t:=fun e=>by rw [e,ht0] at hu;cases hu
      simp [AK.FL,hne,hbu.le.tok u hu]
    · simp only [AK.FL] at hu
      split at hu
      · cases hu
      · exact hu
 obtain ⟨σ2,ha,hb2,hle2,hbt2,htk2⟩:=happ
 have hblk2:σ2.blk i=some [.gp i 0,v]:=by rw [hb2];exact hblk
 refine XEx.apps hcell.2.1 ha (by rw [RN];omega) (fun t ht=>?_)
 simp -implicitDefEqProofs only [hblk2,go_sem]
 (repeat' (first|refine ctQ rfl ?_|((first|refine rgQ mxQ ?_|refine cdQ ?_|(refine Run.FT GQ (AK.le_refl _) ?_))<;>try simp -implicitDefEqProofs only [go_sem])|fail))
 refine ⟨hbu.fresh,hbu.Zb,⟨fun j cs hj=>?_,fun u hu=>?_,hle2.gt,hle2.bt⟩,?_,.gp i 0,.own t 5 1 (BI (s++x)),?_,.inr rfl,.inr ⟨t,rfl,?_,?_⟩⟩
 · have hne:j≠i:=fun e=>by rw [e,hbu.fresh] at hj;cases hj
   simp [AZ,hne,Ep,hle2.blk j cs hj]
 · have:=hle2.tok u hu
   simp [AK.AH,AK.CO,this]
 · show σ2.bt i=_
   rw [hbt2];exact hbu.bt
 · simp [AZ,fM]
 · simp [AK.AH,AK.CO]
 · cases h0:σ0.tok t with
   |false=>rfl
   |true=>rw [hbu.le.tok t h0] at ht;cases ht
theorem V5:∀s:List UInt8,bytesOf (BI s)=some s
 |[]=>rfl
 |b::s=>by
  have:=V5 s
  simp only [BI] at this
  simp only [BI,AB,bytesOf,this]
  have hb:(b.toNat:Int) < 256:=by have:=b.toNat_lt;omega
  simp [byteOf,hb]
theorem qD {σ0 σ:AK} {i:Nat} {s:List UInt8} (h:BuS σ0 i s σ) (hs:s=[]→∃p,σ.blk i=some [p,.AO]):
 AP Tryz.prog 46 [.gp i 0] σ (fun v σ'=>v= .d (.str s)∧σ0.le σ'):=by
 by_cases hs0:s=[]
 · obtain ⟨p,hb⟩:=hs hs0
   refine (bN hb h.bt).mono ?_
   rintro v σ' ⟨rfl,rfl⟩
   exact ⟨by rw [hs0],h.le⟩
 refine O1 (by simp) ?_
 rw [Ar]
 obtain ⟨p,v,hb,hp,hv⟩:=h.blk
 rcases hv with ⟨rfl,rfl⟩|⟨t,rfl,ht,ht0⟩
 · exact absurd rfl hs0
 obtain ⟨b,r,rfl⟩:∃b r,s=b::r:=by cases s with|nil=>exact absurd rfl hs0|cons b r=>exact ⟨b,r,rfl⟩
 have hbr:BI (b::r)=[.int .u8 b.toNat]::BI r:=rfl
 have hby:bytesOf ([.int .u8 b.toNat]::BI r)=some (b::r):=V5 (b::r)
 rw [hbr] at hb
 (repeat' (first|refine ctQ rfl ?_|((first|refine rgQ mxQ ?_|refine cdQ ?_|(refine XEx.kM (by simp only [AG]) hs0 ht ?_)|(refine Run.FT IL (AK.le_refl _) ?_))<;>try simp -implicitDefEqProofs only [hb,hby,RN,go_sem])|fail))
 refine ⟨h.le.blk,fun u hu=>?_,h.le.gt,h.le.bt⟩
 have hne:u≠t:=fun e=>by rw [e,ht0] at hu;cases hu
 simp [AK.FL,hne,h.le.tok u hu]
def WX (H:AK→Prop) (fid:FuncId) (args:List AV) (i:Nat) (x:List UInt8):Prop:=
 ∀σ0 σ s,(H σ0∧σ0.gt TD=some VJ)→BuS σ0 i s σ→s.length+x.length≤100000000000000→AP Tryz.prog fid args σ (fun v σ'=>v= .tup []∧BuS σ0 i (s++x) σ')
abbrev WC (fid:FuncId) (args:List AV) (i:Nat) (x:List UInt8):Prop:=WX (fun _=>True) fid args i x
theorem WX.bZ {H H':AK→Prop} {fid:FuncId} {args:List AV} {i:Nat} {x:List UInt8} (h:WX H fid args i x) (hh:∀σ0,H' σ0→H σ0):WX H' fid args i x:=
 fun σ0 σ s h1 h2 h3=>h σ0 σ s ⟨hh _ h1.1,h1.2⟩ h2 h3
theorem WC.any {H:AK→Prop} {fid:FuncId} {args:List AV} {i:Nat} {x:List UInt8} (h:WC fid args i x):WX H fid args i x:=h.bZ fun _ _=>trivial
theorem BuS.share {σ0 σ:AK} {i j:Nat} {s:List UInt8} {cs:List AV} (h:BuS σ0 i s σ) (hj:σ.blk j=none):BuS (σ0.AH j cs) i s (σ.AH j cs):=by
 obtain ⟨p,v,hb,hp,hv⟩:=h.blk
 have hji:i≠j:=fun e=>by rw [e,hj] at hb;cases hb
 refine ⟨by rw [AZ,if_neg hji];exact h.fresh,h.Zb,⟨fun k ds hk=>?_,h.le.tok,h.le.gt,h.le.bt⟩,h.bt,p,v,by rw [AZ,if_neg hji];exact hb,hp,hv⟩
 rw [AZ] at hk ⊢
 split
 · rename_i e;rw [if_pos e] at hk;exact hk
 · rename_i e;rw [if_neg e] at hk;exact h.le.blk k ds hk
theorem BuS.qA {σ0 σ τ:AK} {i j:Nat} {s s':List UInt8} {cs:List AV} (h0:BuS σ0 i s' τ) (hj:τ.blk j=none) (h:BuS (σ0.AH j cs) i s σ):BuS σ0 i s σ:=by
 have hj0:σ0.blk j=none:=by
  cases hh:σ0.blk j with
  |none=>rfl
  |some ds=>have:=h0.le.blk j ds hh;rw [hj] at this;cases this
 refine ⟨h0.fresh,h0.Zb,⟨fun k ds hk=>?_,h.le.tok,h.le.gt,h.le.bt⟩,h.bt,h.blk⟩
 refine h.le.blk k ds ?_
 rw [AZ,if_neg (fun e=>by rw [e,hj0] at hk;cases hk)];exact hk
end Go.Ab
namespace Go.Ab
open Go.Proofs
end Go.Ab
namespace Go.Ab
open Go.Proofs
def FU (sep:Str) (l:List Str) (k:Nat):Str:=if k=0 then Lib.join l sep else Lib.joinTail sep (l.drop k)
theorem Ln (sep:Str) (l:List Str):FU sep l l.length=[]:=by
 rw [FU];split
 · rename_i h;rw [OE] at h;subst h;rfl
 · rw [List.drop_eq_nil_of_le (by omega)];rfl
theorem Pn {sep:Str} {l:List Str} {x:Str} (h:l[0]?=some x):Lib.join l sep=x++FU sep l 1:=by
 cases l with
 |nil=>cases h
 |cons y l=>
  simp only [F8,AQ] at h
  subst h
  rw [Lib.join_cons];rfl
theorem Po {sep:Str} {l:List Str} {k:Nat} {x:Str} (h:l[k]?=some x) (hk:0 < k):FU sep l k=sep++(x++FU sep l (k+1)):=by
 obtain ⟨hlt,hx⟩:=A3.1 h
 rw [FU,if_neg (by omega),FU,if_neg (by omega),List.drop_eq_getElem_cons hlt,hx,Lib.joinTail,AB,F7,AY];rfl
theorem gt0 (n:Nat):decide ((0:Int) < (n:Int))=decide (0 < n):=decide_eq_decide.2 (by omega)
theorem UG {H:AK→Prop} (i:Nat) {fr:FuncId} {first caps:List AV} (hb:Av Tryz.prog fr=true) (hn:first.all AV.BL=true∧caps.all AV.BL=true) (sep:Str) (f:Str→Str) (l:List Str)
 (hr:∀x∈l,WX H fr (first++[(fun x:Str=>.d (.str x)) x]++caps) i (f x)):WX H 134 [.gp i 0,.d (.str sep),.d (.sl (l.map Br)),.fn fr first caps] i (Lib.join (l.map f) sep):=by
 intro σ0 σ s hH hbu hlen
 refine Nt (by simp) ?_
 rw [ZS]
 refine Run.slot 2 (fun hb0=>?_)
 have hb0:l.length≤9223372036854775807:=by simpa [Jg,AV.Fc] using hb0
 rw [← AA] at hlen
 generalize hall:s++Lib.join (l.map f) sep=all at hlen ⊢
 (repeat' (first|refine ctQ rfl ?_|((first|refine rgQ mxQ ?_|refine cdQ ?_)<;>try simp -implicitDefEqProofs only [AJ,go_sem])|fail))
 refine Run.BU ?_
 refine Run.BZ ((fun (a0:AV) (a1:AV) (a3:AV) (a10:AV) (a11:AV)=>fun (y:Nat×List UInt8×AK)=>put 0 a0 (put 1 a1 (put 3 a3 (put 10 a10 (put 11 a11 (put 12 (.d (.int .i64 y.1)) U)))))) _ _ _ _ _) (fun _=>E) (fun y=>y.2.2) (fun y=>y.1≤l.length∧BuS σ0 i y.2.1 y.2.2∧y.2.1++FU sep (l.map f) y.1=all) (fun y=>l.length - y.1) ?_ (0,s,σ) ⟨by simp,hbu,hall⟩
 rintro ⟨k,s1,τ⟩ ⟨hk,hb1,hs1⟩ ih
 simp only at hk hb1 hs1
 by_cases hlt:k < l.length
 · obtain ⟨x,hx⟩:=CF hlt
   have he:=Bq (enc:=Br) hx
   have hw1:IntKind.i64.wrap ((k:Int)+1)=((k+1:Nat):Int):=by rw [BF (by omega) (by omega)];omega
   have hxm:=hr x (Aa hx)
   have hxf:(l.map f)[k]?=some (f x):=by rw [BC,hx];rfl
   generalize f x=fx at hxm hxf
   skip
   simp only [Br] at he hxm
   by_cases hk0:0 < k
   · have hs2:=Po hxf hk0 (sep:=sep)
     rw [hs2,← AY] at hs1
     have hl1:s1.length+sep.length≤100000000000000:=by rw [← hs1] at hlen;simp only [AA] at hlen;omega
     have hl2:(s1++sep).length+fx.length≤100000000000000:=by rw [← hs1] at hlen;simp only [AA] at hlen ⊢;omega
     have hc:=A0 sep hb1 hl1
     (repeat' (first|refine ctQ rfl ?_|((first|refine rgQ mxQ ?_|refine cdQ ?_|(refine AD.mk rfl hc ?_;rintro _ σ1 ⟨rfl,hb2⟩))<;>try simp -implicitDefEqProofs only [B1 hlt,he,gt0,decide_eq_true hk0,go_sem])|fail))
     have hc2:=hxm σ0 σ1 _ hH hb2 hl2
     (repeat' (first|refine ctQ rfl ?_|((first|refine rgQ mxQ ?_|refine cdQ ?_|(refine ⟨fr,first,caps,rfl,hb,AD.mk (by simp only [Ce,hn.1,hn.2,BR,Bg];rfl) hc2 ?_⟩;rintro _ σ2 ⟨rfl,hb3⟩))<;>try simp -implicitDefEqProofs only [hw1,go_sem])|fail))
     (repeat' (first|refine ctQ rfl ?_|((first|refine rgQ mxQ ?_|refine cdQ ?_)<;>try simp -implicitDefEqProofs only [hw1,go_sem])|fail))
     exact ih (k+1,_,σ2) ⟨by simp only;omega,hb3,by simp only [AY] at hs1 ⊢;exact hs1⟩ (by simp only;omega)
   · obtain rfl:k=0:=by omega
     have hs2:=Pn hxf (sep:=sep)
     rw [FU,if_pos rfl,hs2] at hs1
     have hl2:s1.length+fx.length≤100000000000000:=by rw [← hs1] at hlen;simp only [AA] at hlen;omega
     have hc2:=hxm σ0 τ _ hH hb1 hl2
     (repeat' (first|refine ctQ rfl ?_|((first|refine rgQ mxQ ?_|refine cdQ ?_|(refine ⟨fr,first,caps,rfl,hb,AD.mk (by simp only [Ce,hn.1,hn.2,BR,Bg];rfl) hc2 ?_⟩;rintro _ σ2 ⟨rfl,hb3⟩))<;>try simp -implicitDefEqProofs only [B1 hlt,he,hw1,gt0,decide_eq_false hk0,go_sem])|fail))
     (repeat' (first|refine ctQ rfl ?_|((first|refine rgQ mxQ ?_|refine cdQ ?_)<;>try simp -implicitDefEqProofs only [hw1,go_sem])|fail))
     exact ih (1,_,σ2) ⟨by simp only;omega,hb3,by simp only [AY];exact hs1⟩ (by simp only;omega)
 · have hke:k=(l.map f).length:=by rw [AJ];omega
   rw [hke,Ln,Ap] at hs1
   subst hs1
   (repeat' (first|refine ctQ rfl ?_|((first|refine rgQ mxQ ?_|refine cdQ ?_)<;>try simp -implicitDefEqProofs only [Ff hlt,go_sem])|fail))
   exact Run.fin Hu rfl (fun _ _ h=>h) (AK.le_refl _) ⟨rfl,hb1⟩
theorem Hv {H:AK→Prop} (i:Nat) {fr:FuncId} {first caps:List AV} (hb:Av Tryz.prog fr=true) (hn:first.all AV.BL=true∧caps.all AV.BL=true) (sep:Str) (f:TE→Str) (l:List TE)
 (hr:∀x∈l,WX H fr (first++[teA x]++caps) i (f x)):WX H 135 [.gp i 0,.d (.str sep),.d (.sl (l.map TE.enc)),.fn fr first caps] i (Lib.join (l.map f) sep):=by
 intro σ0 σ s hH hbu hlen
 refine Jt (by simp) ?_
 rw [ZS]
 refine Run.slot 2 (fun hb0=>?_)
 have hb0:l.length≤9223372036854775807:=by simpa [Jg,AV.Fc] using hb0
 rw [← AA] at hlen
 generalize hall:s++Lib.join (l.map f) sep=all at hlen ⊢
 (repeat' (first|refine ctQ rfl ?_|((first|refine rgQ mxQ ?_|refine cdQ ?_)<;>try simp -implicitDefEqProofs only [AJ,go_sem])|fail))
 refine Run.BU ?_
 refine Run.BZ ((fun (a0:AV) (a1:AV) (a3:AV) (a10:AV) (a11:AV)=>fun (y:Nat×List UInt8×AK)=>put 0 a0 (put 1 a1 (put 3 a3 (put 10 a10 (put 11 a11 (put 12 (.d (.int .i64 y.1)) U)))))) _ _ _ _ _) (fun _=>E) (fun y=>y.2.2) (fun y=>y.1≤l.length∧BuS σ0 i y.2.1 y.2.2∧y.2.1++FU sep (l.map f) y.1=all) (fun y=>l.length - y.1) ?_ (0,s,σ) ⟨by simp,hbu,hall⟩
 rintro ⟨k,s1,τ⟩ ⟨hk,hb1,hs1⟩ ih
 simp only at hk hb1 hs1
 by_cases hlt:k < l.length
 · obtain ⟨x,hx⟩:=CF hlt
   have he:=Bq (enc:=TE.enc) hx
   have hw1:IntKind.i64.wrap ((k:Int)+1)=((k+1:Nat):Int):=by rw [BF (by omega) (by omega)];omega
   have hxm:=hr x (Aa hx)
   have hxf:(l.map f)[k]?=some (f x):=by rw [BC,hx];rfl
   generalize f x=fx at hxm hxf
   obtain ⟨k0,n0,l0⟩:=x
   simp only [teA,TE.AS,AB,AE] at he hxm
   by_cases hk0:0 < k
   · have hs2:=Po hxf hk0 (sep:=sep)
     rw [hs2,← AY] at hs1
     have hl1:s1.length+sep.length≤100000000000000:=by rw [← hs1] at hlen;simp only [AA] at hlen;omega
     have hl2:(s1++sep).length+fx.length≤100000000000000:=by rw [← hs1] at hlen;simp only [AA] at hlen ⊢;omega
     have hc:=A0 sep hb1 hl1
     (repeat' (first|refine ctQ rfl ?_|((first|refine rgQ mxQ ?_|refine cdQ ?_|(refine AD.mk rfl hc ?_;rintro _ σ1 ⟨rfl,hb2⟩))<;>try simp -implicitDefEqProofs only [B1 hlt,he,gt0,decide_eq_true hk0,go_sem])|fail))
     have hc2:=hxm σ0 σ1 _ hH hb2 hl2
     (repeat' (first|refine ctQ rfl ?_|((first|refine rgQ mxQ ?_|refine cdQ ?_|(refine ⟨fr,first,caps,rfl,hb,AD.mk (by simp only [Ce,hn.1,hn.2,BR,Bg];rfl) hc2 ?_⟩;rintro _ σ2 ⟨rfl,hb3⟩))<;>try simp -implicitDefEqProofs only [hw1,go_sem])|fail))
     (repeat' (first|refine ctQ rfl ?_|((first|refine rgQ mxQ ?_|refine cdQ ?_)<;>try simp -implicitDefEqProofs only [hw1,go_sem])|fail))
     exact ih (k+1,_,σ2) ⟨by simp only;omega,hb3,by simp only [AY] at hs1 ⊢;exact hs1⟩ (by simp only;omega)
   · obtain rfl:k=0:=by omega
     have hs2:=Pn hxf (sep:=sep)
     rw [FU,if_pos rfl,hs2] at hs1
     have hl2:s1.length+fx.length≤100000000000000:=by rw [← hs1] at hlen;simp only [AA] at hlen;omega
     have hc2:=hxm σ0 τ _ hH hb1 hl2
     (repeat' (first|refine ctQ rfl ?_|((first|refine rgQ mxQ ?_|refine cdQ ?_|(refine ⟨fr,first,caps,rfl,hb,AD.mk (by simp only [Ce,hn.1,hn.2,BR,Bg];rfl) hc2 ?_⟩;rintro _ σ2 ⟨rfl,hb3⟩))<;>try simp -implicitDefEqProofs only [B1 hlt,he,hw1,gt0,decide_eq_false hk0,go_sem])|fail))
     (repeat' (first|refine ctQ rfl ?_|((first|refine rgQ mxQ ?_|refine cdQ ?_)<;>try simp -implicitDefEqProofs only [hw1,go_sem])|fail))
     exact ih (1,_,σ2) ⟨by simp only;omega,hb3,by simp only [AY];exact hs1⟩ (by simp only;omega)
 · have hke:k=(l.map f).length:=by rw [AJ];omega
   rw [hke,Ln,Ap] at hs1
   subst hs1
   (repeat' (first|refine ctQ rfl ?_|((first|refine rgQ mxQ ?_|refine cdQ ?_)<;>try simp -implicitDefEqProofs only [Ff hlt,go_sem])|fail))
   exact Run.fin Fb rfl (fun _ _ h=>h) (AK.le_refl _) ⟨rfl,hb1⟩
theorem Oi {H:AK→Prop} (i:Nat) {fr:FuncId} {first caps:List AV} (hb:Av Tryz.prog fr=true) (hn:first.all AV.BL=true∧caps.all AV.BL=true) (sep:Str) (f:CE→Str) (l:List CE)
 (hr:∀x∈l,WX H fr (first++[ceA x]++caps) i (f x)):WX H 81 [.gp i 0,.d (.str sep),.d (.sl (l.map CE.enc)),.fn fr first caps] i (Lib.join (l.map f) sep):=by
 intro σ0 σ s hH hbu hlen
 refine Kf (by simp) ?_
 rw [ZS]
 refine Run.slot 2 (fun hb0=>?_)
 have hb0:l.length≤9223372036854775807:=by simpa [Jg,AV.Fc] using hb0
 rw [← AA] at hlen
 generalize hall:s++Lib.join (l.map f) sep=all at hlen ⊢
 (repeat' (first|refine ctQ rfl ?_|((first|refine rgQ mxQ ?_|refine cdQ ?_)<;>try simp -implicitDefEqProofs only [AJ,go_sem])|fail))
 refine Run.BU ?_
 refine Run.BZ ((fun (a0:AV) (a1:AV) (a3:AV) (a10:AV) (a11:AV)=>fun (y:Nat×List UInt8×AK)=>put 0 a0 (put 1 a1 (put 3 a3 (put 10 a10 (put 11 a11 (put 12 (.d (.int .i64 y.1)) U)))))) _ _ _ _ _) (fun _=>E) (fun y=>y.2.2) (fun y=>y.1≤l.length∧BuS σ0 i y.2.1 y.2.2∧y.2.1++FU sep (l.map f) y.1=all) (fun y=>l.length - y.1) ?_ (0,s,σ) ⟨by simp,hbu,hall⟩
 rintro ⟨k,s1,τ⟩ ⟨hk,hb1,hs1⟩ ih
 simp only at hk hb1 hs1
 by_cases hlt:k < l.length
 · obtain ⟨x,hx⟩:=CF hlt
   have he:=Bq (enc:=CE.enc) hx
   have hw1:IntKind.i64.wrap ((k:Int)+1)=((k+1:Nat):Int):=by rw [BF (by omega) (by omega)];omega
   have hxm:=hr x (Aa hx)
   have hxf:(l.map f)[k]?=some (f x):=by rw [BC,hx];rfl
   generalize f x=fx at hxm hxf
   obtain ⟨n0,l0⟩:=x
   simp only [ceA,CE.enc,AB,AE] at he hxm
   by_cases hk0:0 < k
   · have hs2:=Po hxf hk0 (sep:=sep)
     rw [hs2,← AY] at hs1
     have hl1:s1.length+sep.length≤100000000000000:=by rw [← hs1] at hlen;simp only [AA] at hlen;omega
     have hl2:(s1++sep).length+fx.length≤100000000000000:=by rw [← hs1] at hlen;simp only [AA] at hlen ⊢;omega
     have hc:=A0 sep hb1 hl1
     (repeat' (first|refine ctQ rfl ?_|((first|refine rgQ mxQ ?_|refine cdQ ?_|(refine AD.mk rfl hc ?_;rintro _ σ1 ⟨rfl,hb2⟩))<;>try simp -implicitDefEqProofs only [B1 hlt,he,gt0,decide_eq_true hk0,go_sem])|fail))
     have hc2:=hxm σ0 σ1 _ hH hb2 hl2
     (repeat' (first|refine ctQ rfl ?_|((first|refine rgQ mxQ ?_|refine cdQ ?_|(refine ⟨fr,first,caps,rfl,hb,AD.mk (by simp only [Ce,hn.1,hn.2,BR,Bg];rfl) hc2 ?_⟩;rintro _ σ2 ⟨rfl,hb3⟩))<;>try simp -implicitDefEqProofs only [hw1,go_sem])|fail))
     (repeat' (first|refine ctQ rfl ?_|((first|refine rgQ mxQ ?_|refine cdQ ?_)<;>try simp -implicitDefEqProofs only [hw1,go_sem])|fail))
     exact ih (k+1,_,σ2) ⟨by simp only;omega,hb3,by simp only [AY] at hs1 ⊢;exact hs1⟩ (by simp only;omega)
   · obtain rfl:k=0:=by omega
     have hs2:=Pn hxf (sep:=sep)
     rw [FU,if_pos rfl,hs2] at hs1
     have hl2:s1.length+fx.length≤100000000000000:=by rw [← hs1] at hlen;simp only [AA] at hlen;omega
     have hc2:=hxm σ0 τ _ hH hb1 hl2
     (repeat' (first|refine ctQ rfl ?_|((first|refine rgQ mxQ ?_|refine cdQ ?_|(refine ⟨fr,first,caps,rfl,hb,AD.mk (by simp only [Ce,hn.1,hn.2,BR,Bg];rfl) hc2 ?_⟩;rintro _ σ2 ⟨rfl,hb3⟩))<;>try simp -implicitDefEqProofs only [B1 hlt,he,hw1,gt0,decide_eq_false hk0,go_sem])|fail))
     (repeat' (first|refine ctQ rfl ?_|((first|refine rgQ mxQ ?_|refine cdQ ?_)<;>try simp -implicitDefEqProofs only [hw1,go_sem])|fail))
     exact ih (1,_,σ2) ⟨by simp only;omega,hb3,by simp only [AY];exact hs1⟩ (by simp only;omega)
 · have hke:k=(l.map f).length:=by rw [AJ];omega
   rw [hke,Ln,Ap] at hs1
   subst hs1
   (repeat' (first|refine ctQ rfl ?_|((first|refine rgQ mxQ ?_|refine cdQ ?_)<;>try simp -implicitDefEqProofs only [Ff hlt,go_sem])|fail))
   exact Run.fin Ft rfl (fun _ _ h=>h) (AK.le_refl _) ⟨rfl,hb1⟩
theorem K0 {H:AK→Prop} (i:Nat) {fr:FuncId} {first caps:List AV} (hb:Av Tryz.prog fr=true) (hn:first.all AV.BL=true∧caps.all AV.BL=true) (sep:Str) (f:Ex→Str) (l:List Ex)
 (hr:∀x∈l,WX H fr (first++[exA x]++caps) i (f x)):WX H 144 [.gp i 0,.d (.str sep),.d (.sl (l.map Ex.enc)),.fn fr first caps] i (Lib.join (l.map f) sep):=by
 intro σ0 σ s hH hbu hlen
 refine Mk (by simp) ?_
 rw [ZS]
 refine Run.slot 2 (fun hb0=>?_)
 have hb0:l.length≤9223372036854775807:=by simpa [Jg,AV.Fc] using hb0
 rw [← AA] at hlen
 generalize hall:s++Lib.join (l.map f) sep=all at hlen ⊢
 (repeat' (first|refine ctQ rfl ?_|((first|refine rgQ mxQ ?_|refine cdQ ?_)<;>try simp -implicitDefEqProofs only [AJ,go_sem])|fail))
 refine Run.BU ?_
 refine Run.BZ ((fun (a0:AV) (a1:AV) (a3:AV) (a10:AV) (a11:AV)=>fun (y:Nat×List UInt8×AK)=>put 0 a0 (put 1 a1 (put 3 a3 (put 10 a10 (put 11 a11 (put 12 (.d (.int .i64 y.1)) U)))))) _ _ _ _ _) (fun _=>E) (fun y=>y.2.2) (fun y=>y.1≤l.length∧BuS σ0 i y.2.1 y.2.2∧y.2.1++FU sep (l.map f) y.1=all) (fun y=>l.length - y.1) ?_ (0,s,σ) ⟨by simp,hbu,hall⟩
 rintro ⟨k,s1,τ⟩ ⟨hk,hb1,hs1⟩ ih
 simp only at hk hb1 hs1
 by_cases hlt:k < l.length
 · obtain ⟨x,hx⟩:=CF hlt
   have he:=Bq (enc:=Ex.enc) hx
   have hw1:IntKind.i64.wrap ((k:Int)+1)=((k+1:Nat):Int):=by rw [BF (by omega) (by omega)];omega
   have hxm:=hr x (Aa hx)
   have hxf:(l.map f)[k]?=some (f x):=by rw [BC,hx];rfl
   generalize f x=fx at hxm hxf
   obtain ⟨o0,n0,u0,ns0,ks0,al0⟩:=x
   simp only [exA,Ex.AS,AB,AE] at he hxm
   by_cases hk0:0 < k
   · have hs2:=Po hxf hk0 (sep:=sep)
     rw [hs2,← AY] at hs1
     have hl1:s1.length+sep.length≤100000000000000:=by rw [← hs1] at hlen;simp only [AA] at hlen;omega
     have hl2:(s1++sep).length+fx.length≤100000000000000:=by rw [← hs1] at hlen;simp only [AA] at hlen ⊢;omega
     have hc:=A0 sep hb1 hl1
     (repeat' (first|refine ctQ rfl ?_|((first|refine rgQ mxQ ?_|refine cdQ ?_|(refine AD.mk rfl hc ?_;rintro _ σ1 ⟨rfl,hb2⟩))<;>try simp -implicitDefEqProofs only [B1 hlt,he,gt0,decide_eq_true hk0,go_sem])|fail))
     have hc2:=hxm σ0 σ1 _ hH hb2 hl2
     (repeat' (first|refine ctQ rfl ?_|((first|refine rgQ mxQ ?_|refine cdQ ?_|(refine ⟨fr,first,caps,rfl,hb,AD.mk (by simp only [Ce,hn.1,hn.2,BR,Bg];rfl) hc2 ?_⟩;rintro _ σ2 ⟨rfl,hb3⟩))<;>try simp -implicitDefEqProofs only [hw1,go_sem])|fail))
     (repeat' (first|refine ctQ rfl ?_|((first|refine rgQ mxQ ?_|refine cdQ ?_)<;>try simp -implicitDefEqProofs only [hw1,go_sem])|fail))
     exact ih (k+1,_,σ2) ⟨by simp only;omega,hb3,by simp only [AY] at hs1 ⊢;exact hs1⟩ (by simp only;omega)
   · obtain rfl:k=0:=by omega
     have hs2:=Pn hxf (sep:=sep)
     rw [FU,if_pos rfl,hs2] at hs1
     have hl2:s1.length+fx.length≤100000000000000:=by rw [← hs1] at hlen;simp only [AA] at hlen;omega
     have hc2:=hxm σ0 τ _ hH hb1 hl2
     (repeat' (first|refine ctQ rfl ?_|((first|refine rgQ mxQ ?_|refine cdQ ?_|(refine ⟨fr,first,caps,rfl,hb,AD.mk (by simp only [Ce,hn.1,hn.2,BR,Bg];rfl) hc2 ?_⟩;rintro _ σ2 ⟨rfl,hb3⟩))<;>try simp -implicitDefEqProofs only [B1 hlt,he,hw1,gt0,decide_eq_false hk0,go_sem])|fail))
     (repeat' (first|refine ctQ rfl ?_|((first|refine rgQ mxQ ?_|refine cdQ ?_)<;>try simp -implicitDefEqProofs only [hw1,go_sem])|fail))
     exact ih (1,_,σ2) ⟨by simp only;omega,hb3,by simp only [AY];exact hs1⟩ (by simp only;omega)
 · have hke:k=(l.map f).length:=by rw [AJ];omega
   rw [hke,Ln,Ap] at hs1
   subst hs1
   (repeat' (first|refine ctQ rfl ?_|((first|refine rgQ mxQ ?_|refine cdQ ?_)<;>try simp -implicitDefEqProofs only [Ff hlt,go_sem])|fail))
   exact Run.fin HG rfl (fun _ _ h=>h) (AK.le_refl _) ⟨rfl,hb1⟩
theorem TQ {H:AK→Prop} (i:Nat) {fr:FuncId} {first caps:List AV} (hb:Av Tryz.prog fr=true) (hn:first.all AV.BL=true∧caps.all AV.BL=true) (sep:Str) (f:Al→Str) (l:List Al)
 (hr:∀x∈l,WX H fr (first++[alA x]++caps) i (f x)):WX H 142 [.gp i 0,.d (.str sep),.d (.sl (l.map Al.enc)),.fn fr first caps] i (Lib.join (l.map f) sep):=by
 intro σ0 σ s hH hbu hlen
 refine NZ (by simp) ?_
 rw [ZS]
 refine Run.slot 2 (fun hb0=>?_)
 have hb0:l.length≤9223372036854775807:=by simpa [Jg,AV.Fc] using hb0
 rw [← AA] at hlen
 generalize hall:s++Lib.join (l.map f) sep=all at hlen ⊢
 (repeat' (first|refine ctQ rfl ?_|((first|refine rgQ mxQ ?_|refine cdQ ?_)<;>try simp -implicitDefEqProofs only [AJ,go_sem])|fail))
 refine Run.BU ?_
 refine Run.BZ ((fun (a0:AV) (a1:AV) (a3:AV) (a10:AV) (a11:AV)=>fun (y:Nat×List UInt8×AK)=>put 0 a0 (put 1 a1 (put 3 a3 (put 10 a10 (put 11 a11 (put 12 (.d (.int .i64 y.1)) U)))))) _ _ _ _ _) (fun _=>E) (fun y=>y.2.2) (fun y=>y.1≤l.length∧BuS σ0 i y.2.1 y.2.2∧y.2.1++FU sep (l.map f) y.1=all) (fun y=>l.length - y.1) ?_ (0,s,σ) ⟨by simp,hbu,hall⟩
 rintro ⟨k,s1,τ⟩ ⟨hk,hb1,hs1⟩ ih
 simp only at hk hb1 hs1
 by_cases hlt:k < l.length
 · obtain ⟨x,hx⟩:=CF hlt
   have he:=Bq (enc:=Al.enc) hx
   have hw1:IntKind.i64.wrap ((k:Int)+1)=((k+1:Nat):Int):=by rw [BF (by omega) (by omega)];omega
   have hxm:=hr x (Aa hx)
   have hxf:(l.map f)[k]?=some (f x):=by rw [BC,hx];rfl
   generalize f x=fx at hxm hxf
   obtain ⟨c0,vs0,⟨o0,n0,u0,ns0,ks0,al0⟩⟩:=x
   simp only [alA,Al.AS,AB,AE] at he hxm
   by_cases hk0:0 < k
   · have hs2:=Po hxf hk0 (sep:=sep)
     rw [hs2,← AY] at hs1
     have hl1:s1.length+sep.length≤100000000000000:=by rw [← hs1] at hlen;simp only [AA] at hlen;omega
     have hl2:(s1++sep).length+fx.length≤100000000000000:=by rw [← hs1] at hlen;simp only [AA] at hlen ⊢;omega
     have hc:=A0 sep hb1 hl1
     (repeat' (first|refine ctQ rfl ?_|((first|refine rgQ mxQ ?_|refine cdQ ?_|(refine AD.mk rfl hc ?_;rintro _ σ1 ⟨rfl,hb2⟩))<;>try simp -implicitDefEqProofs only [B1 hlt,he,gt0,decide_eq_true hk0,go_sem])|fail))
     have hc2:=hxm σ0 σ1 _ hH hb2 hl2
     (repeat' (first|refine ctQ rfl ?_|((first|refine rgQ mxQ ?_|refine cdQ ?_|(refine ⟨fr,first,caps,rfl,hb,AD.mk (by simp only [Ce,hn.1,hn.2,BR,Bg];rfl) hc2 ?_⟩;rintro _ σ2 ⟨rfl,hb3⟩))<;>try simp -implicitDefEqProofs only [hw1,go_sem])|fail))
     (repeat' (first|refine ctQ rfl ?_|((first|refine rgQ mxQ ?_|refine cdQ ?_)<;>try simp -implicitDefEqProofs only [hw1,go_sem])|fail))
     exact ih (k+1,_,σ2) ⟨by simp only;omega,hb3,by simp only [AY] at hs1 ⊢;exact hs1⟩ (by simp only;omega)
   · obtain rfl:k=0:=by omega
     have hs2:=Pn hxf (sep:=sep)
     rw [FU,if_pos rfl,hs2] at hs1
     have hl2:s1.length+fx.length≤100000000000000:=by rw [← hs1] at hlen;simp only [AA] at hlen;omega
     have hc2:=hxm σ0 τ _ hH hb1 hl2
     (repeat' (first|refine ctQ rfl ?_|((first|refine rgQ mxQ ?_|refine cdQ ?_|(refine ⟨fr,first,caps,rfl,hb,AD.mk (by simp only [Ce,hn.1,hn.2,BR,Bg];rfl) hc2 ?_⟩;rintro _ σ2 ⟨rfl,hb3⟩))<;>try simp -implicitDefEqProofs only [B1 hlt,he,hw1,gt0,decide_eq_false hk0,go_sem])|fail))
     (repeat' (first|refine ctQ rfl ?_|((first|refine rgQ mxQ ?_|refine cdQ ?_)<;>try simp -implicitDefEqProofs only [hw1,go_sem])|fail))
     exact ih (1,_,σ2) ⟨by simp only;omega,hb3,by simp only [AY];exact hs1⟩ (by simp only;omega)
 · have hke:k=(l.map f).length:=by rw [AJ];omega
   rw [hke,Ln,Ap] at hs1
   subst hs1
   (repeat' (first|refine ctQ rfl ?_|((first|refine rgQ mxQ ?_|refine cdQ ?_)<;>try simp -implicitDefEqProofs only [Ff hlt,go_sem])|fail))
   exact Run.fin H4 rfl (fun _ _ h=>h) (AK.le_refl _) ⟨rfl,hb1⟩
theorem N1 {H:AK→Prop} (i:Nat) {fr:FuncId} {first caps:List AV} (hb:Av Tryz.prog fr=true) (hn:first.all AV.BL=true∧caps.all AV.BL=true) (f:Str→Str) (l:List Str)
 (hr:∀x∈l,WX H fr (first++[(fun x:Str=>.d (.str x)) x]++caps) i (f x)):WX H 79 [.gp i 0,.d (.sl (l.map Br)),.fn fr first caps] i (Lb (l.map f)):=by
 intro σ0 σ s hH hbu hlen
 refine O6 (by simp) ?_
 rw [Hw]
 by_cases hl0:0 < l.length
 · rw [Lb,if_neg (by intro e;rw [List.map_eq_nil_iff] at e;subst e;exact absurd hl0 (by simp)),Lc,cms] at hlen ⊢
   simp only [AG,AA,AI] at hlen
   (repeat' (first|refine ctQ rfl ?_|((first|refine rgQ mxQ ?_|refine cdQ ?_|(refine AD.mk rfl (A0 [40] hbu (by simp only [AG,AI];omega)) ?_;rintro _ σ1 ⟨rfl,hb1⟩))<;>try simp -implicitDefEqProofs only [AJ,gt0,decide_eq_true hl0,go_sem])|fail))
   (repeat' (first|refine ctQ rfl ?_|((first|refine rgQ mxQ ?_|refine cdQ ?_|(refine AD.mk (by simp [hn,AV.BL]) (UG i hb hn [44,32] f l hr σ0 σ1 _ hH hb1 (by simp only [AA,AG,AI];omega)) ?_;rintro _ σ2 ⟨rfl,hb2⟩))<;>try simp -implicitDefEqProofs only [go_sem])|fail))
   (repeat' (first|refine ctQ rfl ?_|((first|refine rgQ mxQ ?_|refine cdQ ?_|(refine AD.mk rfl (A0 [41] hb2 (by simp only [AA,AG,AI];omega)) ?_;rintro _ σ3 ⟨rfl,hb3⟩))<;>try simp -implicitDefEqProofs only [go_sem])|fail))
   refine Run.fin F5 rfl (fun _ _ h=>h) (AK.le_refl _) ⟨rfl,?_⟩
   have e:s++40::(Lib.join (l.map f) [44,32]++[41])=s++[40]++Lib.join (l.map f) [44,32]++[41]:=by simp
   rw [e];exact hb3
 · obtain rfl:l=[]:=An (by omega)
   (repeat' (first|refine ctQ rfl ?_|((first|refine rgQ mxQ ?_|refine cdQ ?_)<;>try simp -implicitDefEqProofs only [gt0,go_sem])|(refine ⟨fun h=>?_,fun h=>?_⟩<;>first|(cases h;done)|try simp only [h])|fail))
   simp only [Lb,if_true,Ap]
   exact Run.fin F5 rfl (fun _ _ h=>h) (AK.le_refl _) ⟨rfl,hbu⟩
theorem IQ {H:AK→Prop} (i:Nat) {fr:FuncId} {first caps:List AV} (hb:Av Tryz.prog fr=true) (hn:first.all AV.BL=true∧caps.all AV.BL=true) (f:TE→Str) (l:List TE)
 (hr:∀x∈l,WX H fr (first++[teA x]++caps) i (f x)):WX H 83 [.gp i 0,.d (.sl (l.map TE.enc)),.fn fr first caps] i (Lb (l.map f)):=by
 intro σ0 σ s hH hbu hlen
 refine Kd (by simp) ?_
 rw [Hw]
 by_cases hl0:0 < l.length
 · rw [Lb,if_neg (by intro e;rw [List.map_eq_nil_iff] at e;subst e;exact absurd hl0 (by simp)),Lc,cms] at hlen ⊢
   simp only [AG,AA,AI] at hlen
   (repeat' (first|refine ctQ rfl ?_|((first|refine rgQ mxQ ?_|refine cdQ ?_|(refine AD.mk rfl (A0 [40] hbu (by simp only [AG,AI];omega)) ?_;rintro _ σ1 ⟨rfl,hb1⟩))<;>try simp -implicitDefEqProofs only [AJ,gt0,decide_eq_true hl0,go_sem])|fail))
   (repeat' (first|refine ctQ rfl ?_|((first|refine rgQ mxQ ?_|refine cdQ ?_|(refine AD.mk (by simp [hn,AV.BL]) (Hv i hb hn [44,32] f l hr σ0 σ1 _ hH hb1 (by simp only [AA,AG,AI];omega)) ?_;rintro _ σ2 ⟨rfl,hb2⟩))<;>try simp -implicitDefEqProofs only [go_sem])|fail))
   (repeat' (first|refine ctQ rfl ?_|((first|refine rgQ mxQ ?_|refine cdQ ?_|(refine AD.mk rfl (A0 [41] hb2 (by simp only [AA,AG,AI];omega)) ?_;rintro _ σ3 ⟨rfl,hb3⟩))<;>try simp -implicitDefEqProofs only [go_sem])|fail))
   refine Run.fin Dv rfl (fun _ _ h=>h) (AK.le_refl _) ⟨rfl,?_⟩
   have e:s++40::(Lib.join (l.map f) [44,32]++[41])=s++[40]++Lib.join (l.map f) [44,32]++[41]:=by simp
   rw [e];exact hb3
 · obtain rfl:l=[]:=An (by omega)
   (repeat' (first|refine ctQ rfl ?_|((first|refine rgQ mxQ ?_|refine cdQ ?_)<;>try simp -implicitDefEqProofs only [gt0,go_sem])|(refine ⟨fun h=>?_,fun h=>?_⟩<;>first|(cases h;done)|try simp only [h])|fail))
   simp only [Lb,if_true,Ap]
   exact Run.fin Dv rfl (fun _ _ h=>h) (AK.le_refl _) ⟨rfl,hbu⟩
theorem TC {H:AK→Prop} (i:Nat) {fr:FuncId} {first caps:List AV} (hb:Av Tryz.prog fr=true) (hn:first.all AV.BL=true∧caps.all AV.BL=true) (f:Ex→Str) (l:List Ex)
 (hr:∀x∈l,WX H fr (first++[exA x]++caps) i (f x)):WX H 148 [.gp i 0,.d (.sl (l.map Ex.enc)),.fn fr first caps] i (Lb (l.map f)):=by
 intro σ0 σ s hH hbu hlen
 refine NY (by simp) ?_
 rw [Hw]
 by_cases hl0:0 < l.length
 · rw [Lb,if_neg (by intro e;rw [List.map_eq_nil_iff] at e;subst e;exact absurd hl0 (by simp)),Lc,cms] at hlen ⊢
   simp only [AG,AA,AI] at hlen
   (repeat' (first|refine ctQ rfl ?_|((first|refine rgQ mxQ ?_|refine cdQ ?_|(refine AD.mk rfl (A0 [40] hbu (by simp only [AG,AI];omega)) ?_;rintro _ σ1 ⟨rfl,hb1⟩))<;>try simp -implicitDefEqProofs only [AJ,gt0,decide_eq_true hl0,go_sem])|fail))
   (repeat' (first|refine ctQ rfl ?_|((first|refine rgQ mxQ ?_|refine cdQ ?_|(refine AD.mk (by simp [hn,AV.BL]) (K0 i hb hn [44,32] f l hr σ0 σ1 _ hH hb1 (by simp only [AA,AG,AI];omega)) ?_;rintro _ σ2 ⟨rfl,hb2⟩))<;>try simp -implicitDefEqProofs only [go_sem])|fail))
   (repeat' (first|refine ctQ rfl ?_|((first|refine rgQ mxQ ?_|refine cdQ ?_|(refine AD.mk rfl (A0 [41] hb2 (by simp only [AA,AG,AI];omega)) ?_;rintro _ σ3 ⟨rfl,hb3⟩))<;>try simp -implicitDefEqProofs only [go_sem])|fail))
   refine Run.fin Ev rfl (fun _ _ h=>h) (AK.le_refl _) ⟨rfl,?_⟩
   have e:s++40::(Lib.join (l.map f) [44,32]++[41])=s++[40]++Lib.join (l.map f) [44,32]++[41]:=by simp
   rw [e];exact hb3
 · obtain rfl:l=[]:=An (by omega)
   (repeat' (first|refine ctQ rfl ?_|((first|refine rgQ mxQ ?_|refine cdQ ?_)<;>try simp -implicitDefEqProofs only [gt0,go_sem])|(refine ⟨fun h=>?_,fun h=>?_⟩<;>first|(cases h;done)|try simp only [h])|fail))
   simp only [Lb,if_true,Ap]
   exact Run.fin Ev rfl (fun _ _ h=>h) (AK.le_refl _) ⟨rfl,hbu⟩
end Go.Ab
