/- The builder inside the printer: the check at a fresh one. The printer's builder. Lists of the printer: separated, optional. Conditions: none. -/
import Derived.Test.YtifplkldbbcldaaGreatDoorXSx
set_option linter.unusedSimpArgs false
set_option linter.unusedVariables false
set_option maxRecDepth 4000
set_option maxHeartbeats 8000000
open Option renaming map_eq_some_iff→AK
open Nat renaming le_trans→BD
open List renaming map_cons→AF,length_cons→AB,length_eq_zero_iff→Xn,getElem?_cons_zero→A5,getElem?_eq_some_iff→Aa,flatten_cons→Cl,append_assoc→AT,length_append→AA,length_map→AG,mem_of_getElem?→Ae,getElem?_map→BC,map_nil→AI,all_append→CH,append_nil→A1,length_nil→AE,eq_nil_of_length_eq_zero→As
open Option.some renaming injEq→AR
open Bool renaming and_true→BH,true_and→BJ
namespace Go.Ab
open Go.RowKit Go.Sort Go.Proofs Go.Shelf
set_option maxHeartbeats 1000000 in
set_option maxRecDepth 100000 in
theorem q9 {P:Program} {ρ:Ren} (L:Lays.n240 P ρ) (X:Builder.X72 P ρ) {T:TypeId} (hl:liesAt P P.depth T (2 / P.cellsOf T) 0 (ρ.t 72) 1=true) (b:Nat) (w:World) (h0:w.cell? ⟨b,0,none⟩=some (.pointer none)) (hsh:w.shape? b=some (T,2)) (hfz:w.frozen? ⟨b,0,none⟩=false):
 Calls P (ρ.f 240) #[.pointer (some ⟨b,0,none⟩)] w fun e w'=>e= .returned (.tuple #[])∧w'=w.setCell ⟨b,0,none⟩ (.pointer (some ⟨b,0,none⟩)):=by
 obtain ⟨j,hj,hjs⟩:=AK.1 X.sizeBuilder
 have mixed:=L.mixed
 have t72:=L.t72;have a72:=L.a72;have z72:=L.z72;have v72:=L.v72;have u72:=run_underlying L.t72
 have t70:=L.t70;have a70:=L.a70;have z70:=L.z70;have v70:=L.v70;have u70:=run_underlying L.t70
 have t9:=L.t9;have a9:=L.a9;have z9:=L.z9;have v9:=L.v9;have u9:=run_underlying L.t9
 have t4:=L.t4;have a4:=L.a4;have z4:=L.z4;have v4:=L.v4;have u4:=run_underlying L.t4
 have t164:=L.t164;have a164:=L.a164;have z164:=L.z164;have v164:=L.v164;have u164:=run_underlying L.t164
 go_enter L.f240,Body.n240_ntmps ρ
 go_wp2
 rw [Lib.run_to_unsafe w ⟨b,0,none⟩ L.t70 L.t164 hj (by rw [hjs];decide) hsh (Nat.zero_lt_succ 1)]
 simp only [Result.andThen]
 rw [Oper.upon_value]
 go_wp2
 rw [run_callFunc_extern L.f276 (by kernel_rfl) (by kernel_rfl) (by kernel_rfl) (e:=Extern.AbiNoEscape.same) (by kernel_rfl)]
 rw [Lib.run_noEscape]
 simp only [Result.andThen]
 rw [Oper.upon_value]
 go_wp2
 rw [Lib.run_from_unsafe w ⟨b,0,none⟩ L.t164 L.t70 hj hsh hl]
 simp only [Result.andThen]
 rw [Oper.upon_value]
 go_wp2
 go_end0
 exact ⟨rfl,rfl⟩
theorem aB {σ:AM} {i:Nat} {s:AV} (hb:σ.blk i=some [.Et,s]) (ht:σ.bt i=some (2,87)):AP Tryz.prog 85 [.gp i 0] σ (fun v σ'=>v= .tup []∧σ'=σ.AL i [.gp i 0,s]):=
 fS (fun b w h0 hsh hfz=>q9 Tryz.nP Tryz.Qg (by kernel_rfl) b w h0 hsh hfz) hb ht
end Go.Ab
namespace Go.Proofs
open Go.Shelf
def Tryz.Wo:Go.Shelf.Ren:=⟨fun|169=>46|n=>n,fun|70=>82|9=>9|0=>0|72=>85|37=>83|127=>134|3=>3|5=>5|n=>n,fun|n=>n⟩
theorem Tryz.xL:Lays.n169 Tryz.prog Tryz.Wo:= {
 mixed:=by kernel_rfl
 f169:=Tryz.func46.trans (congrArg some (by kernel_rfl))
 t0:=Tryz.underlying0
 a0:=Tryz.isAgg0
 z0:=Tryz.sizeOf0
 v0:=Tryz.zeroValue0
 t3:=Tryz.underlying3
 a3:=Tryz.isAgg3
 z3:=Tryz.sizeOf3
 v3:=Tryz.zeroValue3
 t9:=Tryz.underlying9
 a9:=Tryz.isAgg9
 z9:=Tryz.sizeOf9
 v9:=Tryz.zeroValue9
 t37:=Tryz.underlying83
 a37:=Tryz.isAgg83
 z37:=Tryz.sizeOf83
 v37:=Tryz.zeroValue83
 t70:=Tryz.underlying82
 a70:=Tryz.isAgg82
 z70:=Tryz.sizeOf82
 v70:=Tryz.zeroValue82
 t72:=Tryz.underlying85
 a72:=Tryz.isAgg85
 z72:=Tryz.sizeOf85
 v72:=Tryz.zeroValue85
 t127:=Tryz.underlying134
 a127:=Tryz.isAgg134
 z127:=Tryz.sizeOf134
 v127:=Tryz.zeroValue134}
theorem Tryz.Uo:Builder.Extra Tryz.prog Tryz.Wo:= {
 sizeBuilder:=by kernel_rfl
 liesBuilder:=by kernel_rfl
 t5:=Tryz.underlying5
 a5:=Tryz.isAgg5
 z5:=Tryz.sizeOf5
 v5:=Tryz.zeroValue5
 infoByte:=by kernel_rfl
 cellsByte:=by kernel_rfl
 sizeByte:=by kernel_rfl
 neB5:=by decide}
end Go.Proofs
namespace Go.Ab
open Go.RowKit Go.Sort Go.Proofs Go.Shelf
set_option maxHeartbeats 2000000 in
set_option maxRecDepth 100000 in
theorem ZC {P:Program} {ρ:Ren} (L:Lays.n169 P ρ) (X:Builder.Extra P ρ) {T:TypeId} (B b:Nat) (p:Value) (w:World) (hbk:w.heap[b]?=some (.cells #[p,.slice none 0 0] T (0,0))):
 Calls P (ρ.f 169) #[.pointer (some ⟨b,0,none⟩)] w fun e w'=>e= .returned (.string ⟨#[]⟩)∧Below B w w':=by
 have hUS:=Any.unsafeString_none L X
 have c1:w.drew.cell? ⟨b,1,none⟩=some (.slice none 0 0):=by
  have:w.drew.heap[b]?=some (.cells #[p,.slice none 0 0] T (0,0)):=hbk
  rw [Lib.cell_of_heap this];rfl
 have hSD:(Builtin.unsafeSliceData_ #[(ρ.t 37)] (ρ.t 127) #[.slice none 0 0]).run P w.drew= .ok (.pointer none) w.drew:=rfl
 have mixed:=L.mixed
 have t72:=L.t72;have a72:=L.a72;have z72:=L.z72;have v72:=L.v72;have u72:=run_underlying L.t72
 have t70:=L.t70;have a70:=L.a70;have z70:=L.z70;have v70:=L.v70;have u70:=run_underlying L.t70
 have t37:=L.t37;have a37:=L.a37;have z37:=L.z37;have v37:=L.v37;have u37:=run_underlying L.t37
 have t127:=L.t127;have a127:=L.a127;have z127:=L.z127;have v127:=L.v127;have u127:=run_underlying L.t127
 have t3:=L.t3;have a3:=L.a3;have z3:=L.z3;have v3:=L.v3;have u3:=run_underlying L.t3
 have t9:=L.t9;have a9:=L.a9;have z9:=L.z9;have v9:=L.v9;have u9:=run_underlying L.t9
 have t5:=X.t5;have a5:=X.a5;have z5:=X.z5;have v5:=X.v5;have u5:=run_underlying X.t5
 go_enter L.f169,Body.n169_ntmps ρ
 go_wp2
 go_region_o
 all_goals (go_wp2;go_ret;exact ⟨rfl,Below.drew (Below.refl B w)⟩)
theorem Z7 {σ:AM} {i:Nat} {p:AV} {ty:TypeId} (hb:σ.blk i=some [p,.AY]) (ht:σ.bt i=some (2,ty)):AP Tryz.prog 46 [.gp i 0] σ (fun v σ'=>v= .d (.str [])∧σ'=σ):=by
 intro base g Pr w0 w vs hr hv
 obtain ⟨v,rfl,hvv⟩:=hv.one
 obtain ⟨b,x,y,hm,hh,hx,hy,hlow,hpr,hok⟩:=hr.AAY hb ht
 cases hvv with|gp h=>
 cases hy with|AY=>
 rw [hm] at h;cases h
 refine (ZC Tryz.xL Tryz.Uo w.heap.size b x w hh).mono ?_
 rintro e w' ⟨rfl,hb⟩
 obtain ⟨k1,k2⟩:=hr.below hb
 exact ⟨_,_,g,σ,rfl,.d (.str (by decide)),k1,Gh.le_refl g,k2,rfl,rfl⟩
end Go.Ab
namespace Go.Ab
open Go.Proofs
structure BuS (σ0:AM) (i:Nat) (s:List UInt8) (σ:AM):Prop where
 fresh:σ0.blk i=none
 Y0:σ0.bt i=none
 le:σ0.le σ
 bt:σ.bt i=some (2,87)
 blk:∃p v,σ.blk i=some [p,v]∧(p= .Et∨p= .gp i 0)∧((v= .AY∧s=[])∨(∃t,v= .own t 5 1 (BI s)∧σ.tok t=true∧σ0.tok t=false))
theorem bJ {σ:AM} {i:Nat} (h:σ.blk i=none∧σ.bt i=none):BuS σ i [] ((σ.AL i [.Et,.AY]).GG i (2,87)) where
 fresh:=h.1
 Y0:=h.2
 le:=⟨fun j cs hj=>by
  have hne:j≠i:=fun e=>by rw [e,h.1] at hj;cases hj
  simp [AM.GG,AM.AL,hne,hj],fun _ h=>h,rfl,fun j x hj=>by
  have hne:j≠i:=fun e=>by rw [e,h.2] at hj;cases hj
  simp [AM.GG,AM.AL,hne,hj]⟩
 bt:=by simp [AM.GG]
 blk:=⟨.Et,.AY,by simp [AM.GG,AM.AL],.inl rfl,.inl ⟨rfl,rfl⟩⟩
theorem aA {σ0 σ:AM} {i:Nat} {s:List UInt8} (h:BuS σ0 i s σ):AP Tryz.prog 85 [.gp i 0] σ (fun v σ'=>v= .tup []∧BuS σ0 i s σ'∧∃v,σ'.blk i=some [.gp i 0,v]∧((v= .AY∧s=[])∨(∃t,v= .own t 5 1 (BI s)∧σ'.tok t=true∧σ0.tok t=false))):=by
 obtain ⟨p,v,hb,hp|hp,hv⟩:=h.blk
 · subst hp
   refine (aB hb h.bt).mono ?_
   rintro v' σ' ⟨rfl,rfl⟩
   have hn:(σ.AL i [.gp i 0,v]).blk i=some [.gp i 0,v]:=by simp [AO]
   refine ⟨rfl,⟨h.fresh,h.Y0,⟨fun j cs hj=>?_,h.le.tok,h.le.gt,h.le.bt⟩,h.bt,.gp i 0,v,hn,.inr rfl,hv⟩,v,hn,hv⟩
   have hne:j≠i:=fun e=>by rw [e,h.fresh] at hj;cases hj
   simp [AO,hne,h.le.blk j cs hj]
 · subst hp
   refine (VK hb h.bt).mono ?_
   rintro v' σ' ⟨rfl,rfl⟩
   exact ⟨rfl,h,v,hb,hv⟩
theorem DB {a b:List UInt8} (h:a.length+b.length≤100000000000000):aX .add a b=some (.d (.str (a++b))):=by
 have hm:a.length+b.length≤maxLen:=BD h (by decide+kernel)
 simp [aX,hm]
theorem dD (s x:List UInt8):BI s++BI x=BI (s++x):=by simp [BI]
theorem Lc (s:List UInt8):(BI s).length=s.length:=by simp [BI]
theorem A6 {σ0 σ:AM} {i:Nat} {s:List UInt8} (x:List UInt8) (h:BuS σ0 i s σ) (hl:s.length+x.length≤100000000000000):
 AP Tryz.prog 43 [.gp i 0,.d (.str x)] σ (fun v σ'=>v= .tup [.d (.int .i64 x.length),.undef]∧BuS σ0 i (s++x) σ'):=by
 refine LP (by simp) ?_
 rw [BP]
 (repeat' (first|refine Run.ct rfl ?_|((first|refine Run.reg mixed ?_|refine Run.AJ ?_|(refine AH.mk rfl (aA h) ?_)|(refine AQ rfl (fun h=>?_) (fun h=>?_)<;>try (cases h;done)))<;>try simp -implicitDefEqProofs only [go_sem])|(refine ⟨fun h=>?_,fun h=>?_⟩<;>first|(cases h;done)|try simp only [h])|fail))
 rintro _ σ1 ⟨rfl,hbu,v,hblk,hv⟩
 have hcell:v.CQ=true∧v.Ay=true∧v.cells=[v]:=by
  rcases hv with ⟨rfl,_⟩|⟨t,rfl,_⟩<;>exact ⟨rfl,rfl,rfl⟩
 (repeat' (first|refine Run.ct rfl ?_|((first|refine Run.reg mixed ?_|refine Run.AJ ?_|(refine AQ rfl (fun h=>?_) (fun h=>?_)<;>try (cases h;done)))<;>try simp -implicitDefEqProofs only [hblk,hcell.1,hcell.2.1,hcell.2.2,go_sem])|(refine ⟨fun h=>?_,fun h=>?_⟩<;>first|(cases h;done)|try simp only [h])|fail))
 have happ:∃σ2,Pm σ1 5 1 v=some (BI s,σ2)∧(∀j,σ2.blk j=σ1.blk j)∧σ0.le σ2∧σ2.bt=σ1.bt∧(∀t,σ2.tok t=true→σ1.tok t=true):=by
  rcases hv with ⟨rfl,rfl⟩|⟨t,rfl,ht,ht0⟩
  · exact ⟨σ1,rfl,fun _=>rfl,hbu.le,rfl,fun _ h=>h⟩
  · refine ⟨σ1.FK t,by simp [Pm,ht],fun _=>rfl,⟨hbu.le.blk,fun u hu=>?_,hbu.le.gt,hbu.le.bt⟩,rfl,fun u hu=>?_⟩
    · have hne:u≠t:=fun e=>by rw [e,ht0] at hu;cases hu
      simp [AM.FK,hne,hbu.le.tok u hu]
    · simp only [AM.FK] at hu
      split at hu
      · cases hu
      · exact hu
 obtain ⟨σ2,ha,hb2,hle2,hbt2,htk2⟩:=happ
 have hblk2:σ2.blk i=some [.gp i 0,v]:=by rw [hb2];exact hblk
 refine XEx.apps hcell.2.1 ha (by rw [Lc];omega) (fun t ht=>?_)
 simp -implicitDefEqProofs only [hblk2,go_sem]
 (repeat' (first|refine Run.ct rfl ?_|((first|refine Run.reg mixed ?_|refine Run.AJ ?_|(refine Run.GR GF (AM.le_refl _) ?_)|(refine AQ rfl (fun h=>?_) (fun h=>?_)<;>try (cases h;done)))<;>try simp -implicitDefEqProofs only [hblk2,go_sem])|(refine ⟨fun h=>?_,fun h=>?_⟩<;>first|(cases h;done)|try simp only [h])|fail))
 refine ⟨hbu.fresh,hbu.Y0,⟨fun j cs hj=>?_,fun u hu=>?_,hle2.gt,hle2.bt⟩,?_,.gp i 0,.own t 5 1 (BI (s++x)),?_,.inr rfl,.inr ⟨t,rfl,?_,?_⟩⟩
 · have hne:j≠i:=fun e=>by rw [e,hbu.fresh] at hj;cases hj
   simp [AO,hne,GJ,hle2.blk j cs hj]
 · have:=hle2.tok u hu
   simp [AM.AL,AM.D7,this]
 · show σ2.bt i=_
   rw [hbt2];exact hbu.bt
 · simp [AO,dD]
 · simp [AM.AL,AM.D7]
 · cases h0:σ0.tok t with
   |false=>rfl
   |true=>rw [hbu.le.tok t h0] at ht;cases ht
theorem Uw:∀s:List UInt8,bytesOf (BI s)=some s
 |[]=>rfl
 |b::s=>by
  have:=Uw s
  simp only [BI] at this
  simp only [BI,AF,bytesOf,this]
  have hb:(b.toNat:Int) < 256:=by have:=b.toNat_lt;omega
  simp [byteOf,hb]
theorem a8 {σ0 σ:AM} {i:Nat} {s:List UInt8} (h:BuS σ0 i s σ) (hs:s=[]→∃p,σ.blk i=some [p,.AY]):
 AP Tryz.prog 46 [.gp i 0] σ (fun v σ'=>v= .d (.str s)∧σ0.le σ'):=by
 by_cases hs0:s=[]
 · obtain ⟨p,hb⟩:=hs hs0
   refine (Z7 hb h.bt).mono ?_
   rintro v σ' ⟨rfl,rfl⟩
   exact ⟨by rw [hs0],h.le⟩
 refine OS (by simp) ?_
 rw [Av]
 obtain ⟨p,v,hb,hp,hv⟩:=h.blk
 rcases hv with ⟨rfl,rfl⟩|⟨t,rfl,ht,ht0⟩
 · exact absurd rfl hs0
 obtain ⟨b,r,rfl⟩:∃b r,s=b::r:=by cases s with|nil=>exact absurd rfl hs0|cons b r=>exact ⟨b,r,rfl⟩
 have hbr:BI (b::r)=[.int .u8 b.toNat]::BI r:=rfl
 have hby:bytesOf ([.int .u8 b.toNat]::BI r)=some (b::r):=Uw (b::r)
 rw [hbr] at hb
 (repeat' (first|refine Run.ct rfl ?_|((first|refine Run.reg mixed ?_|refine Run.AJ ?_|(refine XEx.jG (by simp only [Lc,AB]) hs0 ht ?_)|(refine Run.GR Hw (AM.le_refl _) ?_)|(refine AQ rfl (fun h=>?_) (fun h=>?_)<;>try (cases h;done)))<;>try simp -implicitDefEqProofs only [hb,hby,Lc,go_sem])|(refine ⟨fun h=>?_,fun h=>?_⟩<;>first|(cases h;done)|try simp only [h])|fail))
 refine ⟨h.le.blk,fun u hu=>?_,h.le.gt,h.le.bt⟩
 have hne:u≠t:=fun e=>by rw [e,ht0] at hu;cases hu
 simp [AM.FK,hne,h.le.tok u hu]
def WX (H:AM→Prop) (fid:FuncId) (args:List AV) (i:Nat) (x:List UInt8):Prop:=
 ∀σ0 σ s,(H σ0∧σ0.gt RT=some T7)→BuS σ0 i s σ→s.length+x.length≤100000000000000→AP Tryz.prog fid args σ (fun v σ'=>v= .tup []∧BuS σ0 i (s++x) σ')
abbrev WC (fid:FuncId) (args:List AV) (i:Nat) (x:List UInt8):Prop:=WX (fun _=>True) fid args i x
theorem WX.mL {H H':AM→Prop} {fid:FuncId} {args:List AV} {i:Nat} {x:List UInt8} (h:WX H fid args i x) (hh:∀σ0,H' σ0→H σ0):WX H' fid args i x:=
 fun σ0 σ s h1 h2 h3=>h σ0 σ s ⟨hh _ h1.1,h1.2⟩ h2 h3
theorem WC.any {H:AM→Prop} {fid:FuncId} {args:List AV} {i:Nat} {x:List UInt8} (h:WC fid args i x):WX H fid args i x:=h.mL fun _ _=>trivial
theorem BuS.share {σ0 σ:AM} {i j:Nat} {s:List UInt8} {cs:List AV} (h:BuS σ0 i s σ) (hj:σ.blk j=none):BuS (σ0.AL j cs) i s (σ.AL j cs):=by
 obtain ⟨p,v,hb,hp,hv⟩:=h.blk
 have hji:i≠j:=fun e=>by rw [e,hj] at hb;cases hb
 refine ⟨by rw [AO,if_neg hji];exact h.fresh,h.Y0,⟨fun k ds hk=>?_,h.le.tok,h.le.gt,h.le.bt⟩,h.bt,p,v,by rw [AO,if_neg hji];exact hb,hp,hv⟩
 rw [AO] at hk ⊢
 split
 · rename_i e;rw [if_pos e] at hk;exact hk
 · rename_i e;rw [if_neg e] at hk;exact h.le.blk k ds hk
theorem BuS.oL {σ0 σ τ:AM} {i j:Nat} {s s':List UInt8} {cs:List AV} (h0:BuS σ0 i s' τ) (hj:τ.blk j=none) (h:BuS (σ0.AL j cs) i s σ):BuS σ0 i s σ:=by
 have hj0:σ0.blk j=none:=by
  cases hh:σ0.blk j with
  |none=>rfl
  |some ds=>have:=h0.le.blk j ds hh;rw [hj] at this;cases this
 refine ⟨h0.fresh,h0.Y0,⟨fun k ds hk=>?_,h.le.tok,h.le.gt,h.le.bt⟩,h.bt,h.blk⟩
 refine h.le.blk k ds ?_
 rw [AO,if_neg (fun e=>by rw [e,hj0] at hk;cases hk)];exact hk
end Go.Ab
namespace Go.Ab
open Go.Proofs
def FQ (sep:Str) (l:List Str) (k:Nat):Str:=if k=0 then Lib.join l sep else Lib.joinTail sep (l.drop k)
theorem LZ (sep:Str) (l:List Str):FQ sep l l.length=[]:=by
 rw [FQ];split
 · rename_i h;rw [Xn] at h;subst h;rfl
 · rw [List.drop_eq_nil_of_le (by omega)];rfl
theorem P6 {sep:Str} {l:List Str} {x:Str} (h:l[0]?=some x):Lib.join l sep=x++FQ sep l 1:=by
 cases l with
 |nil=>cases h
 |cons y l=>
  simp only [A5,AR] at h
  subst h
  rw [Lib.join_cons];rfl
theorem P7 {sep:Str} {l:List Str} {k:Nat} {x:Str} (h:l[k]?=some x) (hk:0 < k):FQ sep l k=sep++(x++FQ sep l (k+1)):=by
 obtain ⟨hlt,hx⟩:=Aa.1 h
 rw [FQ,if_neg (by omega),FQ,if_neg (by omega),List.drop_eq_getElem_cons hlt,hx,Lib.joinTail,AF,Cl,AT];rfl
theorem gt0 (n:Nat):decide ((0:Int) < (n:Int))=decide (0 < n):=decide_eq_decide.2 (by omega)
theorem Tc {H:AM→Prop} (i:Nat) {fr:FuncId} {first caps:List AV} (hb:Aw Tryz.prog fr=true) (hn:first.all AV.Ay=true∧caps.all AV.Ay=true) (sep:Str) (f:Str→Str) (l:List Str)
 (hr:∀x∈l,WX H fr (first++[(fun x:Str=>.d (.str x)) x]++caps) i (f x)):WX H 134 [.gp i 0,.d (.str sep),.d (.sl (l.map B0)),.fn fr first caps] i (Lib.join (l.map f) sep):=by
 intro σ0 σ s hH hbu hlen
 refine Nq (by simp) ?_
 rw [YA]
 refine Run.slot 2 (fun hb0=>?_)
 have hb0:l.length≤9223372036854775807:=by simpa [IQ,AV.HR] using hb0
 rw [← AA] at hlen
 generalize hall:s++Lib.join (l.map f) sep=all at hlen ⊢
 (repeat' (first|refine Run.ct rfl ?_|((first|refine Run.reg mixed ?_|refine Run.AJ ?_|(refine AQ rfl (fun h=>?_) (fun h=>?_)<;>try (cases h;done)))<;>try simp -implicitDefEqProofs only [AG,go_sem])|(refine ⟨fun h=>?_,fun h=>?_⟩<;>first|(cases h;done)|try simp only [h])|fail))
 refine Run.Ba ?_
 refine Run.Bd ((fun (a0:AV) (a1:AV) (a3:AV) (a10:AV) (a11:AV)=>fun (y:Nat×List UInt8×AM)=>put 0 a0 (put 1 a1 (put 3 a3 (put 10 a10 (put 11 a11 (put 12 (.d (.int .i64 y.1)) U)))))) _ _ _ _ _) (fun _=>E) (fun y=>y.2.2) (fun y=>y.1≤l.length∧BuS σ0 i y.2.1 y.2.2∧y.2.1++FQ sep (l.map f) y.1=all) (fun y=>l.length - y.1) ?_ (0,s,σ) ⟨by simp,hbu,hall⟩
 rintro ⟨k,s1,τ⟩ ⟨hk,hb1,hs1⟩ ih
 simp only at hk hb1 hs1
 by_cases hlt:k < l.length
 · obtain ⟨x,hx⟩:=C7 hlt
   have he:=CR (enc:=B0) hx
   have hw1:IntKind.i64.wrap ((k:Int)+1)=((k+1:Nat):Int):=by rw [BF (by omega) (by omega)];omega
   have hxm:=hr x (Ae hx)
   have hxf:(l.map f)[k]?=some (f x):=by rw [BC,hx];rfl
   generalize f x=fx at hxm hxf
   skip
   simp only [B0,AF,AI] at he hxm
   by_cases hk0:0 < k
   · have hs2:=P7 hxf hk0 (sep:=sep)
     rw [hs2,← AT] at hs1
     have hl1:s1.length+sep.length≤100000000000000:=by rw [← hs1] at hlen;simp only [AA] at hlen;omega
     have hl2:(s1++sep).length+fx.length≤100000000000000:=by rw [← hs1] at hlen;simp only [AA] at hlen ⊢;omega
     have hc:=A6 sep hb1 hl1
     (repeat' (first|refine Run.ct rfl ?_|((first|refine Run.reg mixed ?_|refine Run.AJ ?_|(refine AH.mk rfl hc ?_;rintro _ σ1 ⟨rfl,hb2⟩)|(refine AQ rfl (fun h=>?_) (fun h=>?_)<;>try (cases h;done)))<;>try simp -implicitDefEqProofs only [BZ hlt,he,hw1,gt0,decide_eq_true hk0,AG,go_sem])|(refine ⟨fun h=>?_,fun h=>?_⟩<;>first|(cases h;done)|try simp only [h])|fail))
     have hc2:=hxm σ0 σ1 _ hH hb2 hl2
     (repeat' (first|refine Run.ct rfl ?_|((first|refine Run.reg mixed ?_|refine Run.AJ ?_|(refine ⟨fr,first,caps,rfl,hb,AH.mk (by simp only [CH,hn.1,hn.2,BH,BJ];rfl) hc2 ?_⟩;rintro _ σ2 ⟨rfl,hb3⟩)|(refine AQ rfl (fun h=>?_) (fun h=>?_)<;>try (cases h;done)))<;>try simp -implicitDefEqProofs only [hw1,go_sem])|(refine ⟨fun h=>?_,fun h=>?_⟩<;>first|(cases h;done)|try simp only [h])|fail))
     (repeat' (first|refine Run.ct rfl ?_|((first|refine Run.reg mixed ?_|refine Run.AJ ?_|(refine AQ rfl (fun h=>?_) (fun h=>?_)<;>try (cases h;done)))<;>try simp -implicitDefEqProofs only [hw1,go_sem])|(refine ⟨fun h=>?_,fun h=>?_⟩<;>first|(cases h;done)|try simp only [h])|fail))
     exact ih (k+1,_,σ2) ⟨by simp only;omega,hb3,by simp only [AT] at hs1 ⊢;exact hs1⟩ (by simp only;omega)
   · obtain rfl:k=0:=by omega
     have hs2:=P6 hxf (sep:=sep)
     rw [FQ,if_pos rfl,hs2] at hs1
     have hl2:s1.length+fx.length≤100000000000000:=by rw [← hs1] at hlen;simp only [AA] at hlen;omega
     have hc2:=hxm σ0 τ _ hH hb1 hl2
     (repeat' (first|refine Run.ct rfl ?_|((first|refine Run.reg mixed ?_|refine Run.AJ ?_|(refine ⟨fr,first,caps,rfl,hb,AH.mk (by simp only [CH,hn.1,hn.2,BH,BJ];rfl) hc2 ?_⟩;rintro _ σ2 ⟨rfl,hb3⟩)|(refine AQ rfl (fun h=>?_) (fun h=>?_)<;>try (cases h;done)))<;>try simp -implicitDefEqProofs only [BZ hlt,he,hw1,gt0,decide_eq_false hk0,AG,go_sem])|(refine ⟨fun h=>?_,fun h=>?_⟩<;>first|(cases h;done)|try simp only [h])|fail))
     (repeat' (first|refine Run.ct rfl ?_|((first|refine Run.reg mixed ?_|refine Run.AJ ?_|(refine AQ rfl (fun h=>?_) (fun h=>?_)<;>try (cases h;done)))<;>try simp -implicitDefEqProofs only [hw1,go_sem])|(refine ⟨fun h=>?_,fun h=>?_⟩<;>first|(cases h;done)|try simp only [h])|fail))
     exact ih (1,_,σ2) ⟨by simp only;omega,hb3,by simp only [AT];exact hs1⟩ (by simp only;omega)
 · have hke:k=(l.map f).length:=by rw [AG];omega
   rw [hke,LZ,A1] at hs1
   subst hs1
   (repeat' (first|refine Run.ct rfl ?_|((first|refine Run.reg mixed ?_|refine Run.AJ ?_|(refine AQ rfl (fun h=>?_) (fun h=>?_)<;>try (cases h;done)))<;>try simp -implicitDefEqProofs only [FD hlt,AG,go_sem])|(refine ⟨fun h=>?_,fun h=>?_⟩<;>first|(cases h;done)|try simp only [h])|fail))
   exact Run.fin Hd rfl (fun _ _ h=>h) (AM.le_refl _) ⟨rfl,hb1⟩
theorem Hf {H:AM→Prop} (i:Nat) {fr:FuncId} {first caps:List AV} (hb:Aw Tryz.prog fr=true) (hn:first.all AV.Ay=true∧caps.all AV.Ay=true) (sep:Str) (f:TE→Str) (l:List TE)
 (hr:∀x∈l,WX H fr (first++[teA x]++caps) i (f x)):WX H 135 [.gp i 0,.d (.str sep),.d (.sl (l.map TE.enc)),.fn fr first caps] i (Lib.join (l.map f) sep):=by
 intro σ0 σ s hH hbu hlen
 refine Jd (by simp) ?_
 rw [YA]
 refine Run.slot 2 (fun hb0=>?_)
 have hb0:l.length≤9223372036854775807:=by simpa [IQ,AV.HR] using hb0
 rw [← AA] at hlen
 generalize hall:s++Lib.join (l.map f) sep=all at hlen ⊢
 (repeat' (first|refine Run.ct rfl ?_|((first|refine Run.reg mixed ?_|refine Run.AJ ?_|(refine AQ rfl (fun h=>?_) (fun h=>?_)<;>try (cases h;done)))<;>try simp -implicitDefEqProofs only [AG,go_sem])|(refine ⟨fun h=>?_,fun h=>?_⟩<;>first|(cases h;done)|try simp only [h])|fail))
 refine Run.Ba ?_
 refine Run.Bd ((fun (a0:AV) (a1:AV) (a3:AV) (a10:AV) (a11:AV)=>fun (y:Nat×List UInt8×AM)=>put 0 a0 (put 1 a1 (put 3 a3 (put 10 a10 (put 11 a11 (put 12 (.d (.int .i64 y.1)) U)))))) _ _ _ _ _) (fun _=>E) (fun y=>y.2.2) (fun y=>y.1≤l.length∧BuS σ0 i y.2.1 y.2.2∧y.2.1++FQ sep (l.map f) y.1=all) (fun y=>l.length - y.1) ?_ (0,s,σ) ⟨by simp,hbu,hall⟩
 rintro ⟨k,s1,τ⟩ ⟨hk,hb1,hs1⟩ ih
 simp only at hk hb1 hs1
 by_cases hlt:k < l.length
 · obtain ⟨x,hx⟩:=C7 hlt
   have he:=CR (enc:=TE.enc) hx
   have hw1:IntKind.i64.wrap ((k:Int)+1)=((k+1:Nat):Int):=by rw [BF (by omega) (by omega)];omega
   have hxm:=hr x (Ae hx)
   have hxf:(l.map f)[k]?=some (f x):=by rw [BC,hx];rfl
   generalize f x=fx at hxm hxf
   obtain ⟨k0,n0,l0⟩:=x
   simp only [teA,TE.A2,AF,AI] at he hxm
   by_cases hk0:0 < k
   · have hs2:=P7 hxf hk0 (sep:=sep)
     rw [hs2,← AT] at hs1
     have hl1:s1.length+sep.length≤100000000000000:=by rw [← hs1] at hlen;simp only [AA] at hlen;omega
     have hl2:(s1++sep).length+fx.length≤100000000000000:=by rw [← hs1] at hlen;simp only [AA] at hlen ⊢;omega
     have hc:=A6 sep hb1 hl1
     (repeat' (first|refine Run.ct rfl ?_|((first|refine Run.reg mixed ?_|refine Run.AJ ?_|(refine AH.mk rfl hc ?_;rintro _ σ1 ⟨rfl,hb2⟩)|(refine AQ rfl (fun h=>?_) (fun h=>?_)<;>try (cases h;done)))<;>try simp -implicitDefEqProofs only [BZ hlt,he,hw1,gt0,decide_eq_true hk0,AG,go_sem])|(refine ⟨fun h=>?_,fun h=>?_⟩<;>first|(cases h;done)|try simp only [h])|fail))
     have hc2:=hxm σ0 σ1 _ hH hb2 hl2
     (repeat' (first|refine Run.ct rfl ?_|((first|refine Run.reg mixed ?_|refine Run.AJ ?_|(refine ⟨fr,first,caps,rfl,hb,AH.mk (by simp only [CH,hn.1,hn.2,BH,BJ];rfl) hc2 ?_⟩;rintro _ σ2 ⟨rfl,hb3⟩)|(refine AQ rfl (fun h=>?_) (fun h=>?_)<;>try (cases h;done)))<;>try simp -implicitDefEqProofs only [hw1,go_sem])|(refine ⟨fun h=>?_,fun h=>?_⟩<;>first|(cases h;done)|try simp only [h])|fail))
     (repeat' (first|refine Run.ct rfl ?_|((first|refine Run.reg mixed ?_|refine Run.AJ ?_|(refine AQ rfl (fun h=>?_) (fun h=>?_)<;>try (cases h;done)))<;>try simp -implicitDefEqProofs only [hw1,go_sem])|(refine ⟨fun h=>?_,fun h=>?_⟩<;>first|(cases h;done)|try simp only [h])|fail))
     exact ih (k+1,_,σ2) ⟨by simp only;omega,hb3,by simp only [AT] at hs1 ⊢;exact hs1⟩ (by simp only;omega)
   · obtain rfl:k=0:=by omega
     have hs2:=P6 hxf (sep:=sep)
     rw [FQ,if_pos rfl,hs2] at hs1
     have hl2:s1.length+fx.length≤100000000000000:=by rw [← hs1] at hlen;simp only [AA] at hlen;omega
     have hc2:=hxm σ0 τ _ hH hb1 hl2
     (repeat' (first|refine Run.ct rfl ?_|((first|refine Run.reg mixed ?_|refine Run.AJ ?_|(refine ⟨fr,first,caps,rfl,hb,AH.mk (by simp only [CH,hn.1,hn.2,BH,BJ];rfl) hc2 ?_⟩;rintro _ σ2 ⟨rfl,hb3⟩)|(refine AQ rfl (fun h=>?_) (fun h=>?_)<;>try (cases h;done)))<;>try simp -implicitDefEqProofs only [BZ hlt,he,hw1,gt0,decide_eq_false hk0,AG,go_sem])|(refine ⟨fun h=>?_,fun h=>?_⟩<;>first|(cases h;done)|try simp only [h])|fail))
     (repeat' (first|refine Run.ct rfl ?_|((first|refine Run.reg mixed ?_|refine Run.AJ ?_|(refine AQ rfl (fun h=>?_) (fun h=>?_)<;>try (cases h;done)))<;>try simp -implicitDefEqProofs only [hw1,go_sem])|(refine ⟨fun h=>?_,fun h=>?_⟩<;>first|(cases h;done)|try simp only [h])|fail))
     exact ih (1,_,σ2) ⟨by simp only;omega,hb3,by simp only [AT];exact hs1⟩ (by simp only;omega)
 · have hke:k=(l.map f).length:=by rw [AG];omega
   rw [hke,LZ,A1] at hs1
   subst hs1
   (repeat' (first|refine Run.ct rfl ?_|((first|refine Run.reg mixed ?_|refine Run.AJ ?_|(refine AQ rfl (fun h=>?_) (fun h=>?_)<;>try (cases h;done)))<;>try simp -implicitDefEqProofs only [FD hlt,AG,go_sem])|(refine ⟨fun h=>?_,fun h=>?_⟩<;>first|(cases h;done)|try simp only [h])|fail))
   exact Run.fin F4 rfl (fun _ _ h=>h) (AM.le_refl _) ⟨rfl,hb1⟩
theorem Oa {H:AM→Prop} (i:Nat) {fr:FuncId} {first caps:List AV} (hb:Aw Tryz.prog fr=true) (hn:first.all AV.Ay=true∧caps.all AV.Ay=true) (sep:Str) (f:CE→Str) (l:List CE)
 (hr:∀x∈l,WX H fr (first++[ceA x]++caps) i (f x)):WX H 81 [.gp i 0,.d (.str sep),.d (.sl (l.map CE.enc)),.fn fr first caps] i (Lib.join (l.map f) sep):=by
 intro σ0 σ s hH hbu hlen
 refine KR (by simp) ?_
 rw [YA]
 refine Run.slot 2 (fun hb0=>?_)
 have hb0:l.length≤9223372036854775807:=by simpa [IQ,AV.HR] using hb0
 rw [← AA] at hlen
 generalize hall:s++Lib.join (l.map f) sep=all at hlen ⊢
 (repeat' (first|refine Run.ct rfl ?_|((first|refine Run.reg mixed ?_|refine Run.AJ ?_|(refine AQ rfl (fun h=>?_) (fun h=>?_)<;>try (cases h;done)))<;>try simp -implicitDefEqProofs only [AG,go_sem])|(refine ⟨fun h=>?_,fun h=>?_⟩<;>first|(cases h;done)|try simp only [h])|fail))
 refine Run.Ba ?_
 refine Run.Bd ((fun (a0:AV) (a1:AV) (a3:AV) (a10:AV) (a11:AV)=>fun (y:Nat×List UInt8×AM)=>put 0 a0 (put 1 a1 (put 3 a3 (put 10 a10 (put 11 a11 (put 12 (.d (.int .i64 y.1)) U)))))) _ _ _ _ _) (fun _=>E) (fun y=>y.2.2) (fun y=>y.1≤l.length∧BuS σ0 i y.2.1 y.2.2∧y.2.1++FQ sep (l.map f) y.1=all) (fun y=>l.length - y.1) ?_ (0,s,σ) ⟨by simp,hbu,hall⟩
 rintro ⟨k,s1,τ⟩ ⟨hk,hb1,hs1⟩ ih
 simp only at hk hb1 hs1
 by_cases hlt:k < l.length
 · obtain ⟨x,hx⟩:=C7 hlt
   have he:=CR (enc:=CE.enc) hx
   have hw1:IntKind.i64.wrap ((k:Int)+1)=((k+1:Nat):Int):=by rw [BF (by omega) (by omega)];omega
   have hxm:=hr x (Ae hx)
   have hxf:(l.map f)[k]?=some (f x):=by rw [BC,hx];rfl
   generalize f x=fx at hxm hxf
   obtain ⟨n0,l0⟩:=x
   simp only [ceA,CE.enc,AF,AI] at he hxm
   by_cases hk0:0 < k
   · have hs2:=P7 hxf hk0 (sep:=sep)
     rw [hs2,← AT] at hs1
     have hl1:s1.length+sep.length≤100000000000000:=by rw [← hs1] at hlen;simp only [AA] at hlen;omega
     have hl2:(s1++sep).length+fx.length≤100000000000000:=by rw [← hs1] at hlen;simp only [AA] at hlen ⊢;omega
     have hc:=A6 sep hb1 hl1
     (repeat' (first|refine Run.ct rfl ?_|((first|refine Run.reg mixed ?_|refine Run.AJ ?_|(refine AH.mk rfl hc ?_;rintro _ σ1 ⟨rfl,hb2⟩)|(refine AQ rfl (fun h=>?_) (fun h=>?_)<;>try (cases h;done)))<;>try simp -implicitDefEqProofs only [BZ hlt,he,hw1,gt0,decide_eq_true hk0,AG,go_sem])|(refine ⟨fun h=>?_,fun h=>?_⟩<;>first|(cases h;done)|try simp only [h])|fail))
     have hc2:=hxm σ0 σ1 _ hH hb2 hl2
     (repeat' (first|refine Run.ct rfl ?_|((first|refine Run.reg mixed ?_|refine Run.AJ ?_|(refine ⟨fr,first,caps,rfl,hb,AH.mk (by simp only [CH,hn.1,hn.2,BH,BJ];rfl) hc2 ?_⟩;rintro _ σ2 ⟨rfl,hb3⟩)|(refine AQ rfl (fun h=>?_) (fun h=>?_)<;>try (cases h;done)))<;>try simp -implicitDefEqProofs only [hw1,go_sem])|(refine ⟨fun h=>?_,fun h=>?_⟩<;>first|(cases h;done)|try simp only [h])|fail))
     (repeat' (first|refine Run.ct rfl ?_|((first|refine Run.reg mixed ?_|refine Run.AJ ?_|(refine AQ rfl (fun h=>?_) (fun h=>?_)<;>try (cases h;done)))<;>try simp -implicitDefEqProofs only [hw1,go_sem])|(refine ⟨fun h=>?_,fun h=>?_⟩<;>first|(cases h;done)|try simp only [h])|fail))
     exact ih (k+1,_,σ2) ⟨by simp only;omega,hb3,by simp only [AT] at hs1 ⊢;exact hs1⟩ (by simp only;omega)
   · obtain rfl:k=0:=by omega
     have hs2:=P6 hxf (sep:=sep)
     rw [FQ,if_pos rfl,hs2] at hs1
     have hl2:s1.length+fx.length≤100000000000000:=by rw [← hs1] at hlen;simp only [AA] at hlen;omega
     have hc2:=hxm σ0 τ _ hH hb1 hl2
     (repeat' (first|refine Run.ct rfl ?_|((first|refine Run.reg mixed ?_|refine Run.AJ ?_|(refine ⟨fr,first,caps,rfl,hb,AH.mk (by simp only [CH,hn.1,hn.2,BH,BJ];rfl) hc2 ?_⟩;rintro _ σ2 ⟨rfl,hb3⟩)|(refine AQ rfl (fun h=>?_) (fun h=>?_)<;>try (cases h;done)))<;>try simp -implicitDefEqProofs only [BZ hlt,he,hw1,gt0,decide_eq_false hk0,AG,go_sem])|(refine ⟨fun h=>?_,fun h=>?_⟩<;>first|(cases h;done)|try simp only [h])|fail))
     (repeat' (first|refine Run.ct rfl ?_|((first|refine Run.reg mixed ?_|refine Run.AJ ?_|(refine AQ rfl (fun h=>?_) (fun h=>?_)<;>try (cases h;done)))<;>try simp -implicitDefEqProofs only [hw1,go_sem])|(refine ⟨fun h=>?_,fun h=>?_⟩<;>first|(cases h;done)|try simp only [h])|fail))
     exact ih (1,_,σ2) ⟨by simp only;omega,hb3,by simp only [AT];exact hs1⟩ (by simp only;omega)
 · have hke:k=(l.map f).length:=by rw [AG];omega
   rw [hke,LZ,A1] at hs1
   subst hs1
   (repeat' (first|refine Run.ct rfl ?_|((first|refine Run.reg mixed ?_|refine Run.AJ ?_|(refine AQ rfl (fun h=>?_) (fun h=>?_)<;>try (cases h;done)))<;>try simp -implicitDefEqProofs only [FD hlt,AG,go_sem])|(refine ⟨fun h=>?_,fun h=>?_⟩<;>first|(cases h;done)|try simp only [h])|fail))
   exact Run.fin Ff rfl (fun _ _ h=>h) (AM.le_refl _) ⟨rfl,hb1⟩
theorem KG {H:AM→Prop} (i:Nat) {fr:FuncId} {first caps:List AV} (hb:Aw Tryz.prog fr=true) (hn:first.all AV.Ay=true∧caps.all AV.Ay=true) (sep:Str) (f:Ex→Str) (l:List Ex)
 (hr:∀x∈l,WX H fr (first++[exA x]++caps) i (f x)):WX H 144 [.gp i 0,.d (.str sep),.d (.sl (l.map Ex.enc)),.fn fr first caps] i (Lib.join (l.map f) sep):=by
 intro σ0 σ s hH hbu hlen
 refine M8 (by simp) ?_
 rw [YA]
 refine Run.slot 2 (fun hb0=>?_)
 have hb0:l.length≤9223372036854775807:=by simpa [IQ,AV.HR] using hb0
 rw [← AA] at hlen
 generalize hall:s++Lib.join (l.map f) sep=all at hlen ⊢
 (repeat' (first|refine Run.ct rfl ?_|((first|refine Run.reg mixed ?_|refine Run.AJ ?_|(refine AQ rfl (fun h=>?_) (fun h=>?_)<;>try (cases h;done)))<;>try simp -implicitDefEqProofs only [AG,go_sem])|(refine ⟨fun h=>?_,fun h=>?_⟩<;>first|(cases h;done)|try simp only [h])|fail))
 refine Run.Ba ?_
 refine Run.Bd ((fun (a0:AV) (a1:AV) (a3:AV) (a10:AV) (a11:AV)=>fun (y:Nat×List UInt8×AM)=>put 0 a0 (put 1 a1 (put 3 a3 (put 10 a10 (put 11 a11 (put 12 (.d (.int .i64 y.1)) U)))))) _ _ _ _ _) (fun _=>E) (fun y=>y.2.2) (fun y=>y.1≤l.length∧BuS σ0 i y.2.1 y.2.2∧y.2.1++FQ sep (l.map f) y.1=all) (fun y=>l.length - y.1) ?_ (0,s,σ) ⟨by simp,hbu,hall⟩
 rintro ⟨k,s1,τ⟩ ⟨hk,hb1,hs1⟩ ih
 simp only at hk hb1 hs1
 by_cases hlt:k < l.length
 · obtain ⟨x,hx⟩:=C7 hlt
   have he:=CR (enc:=Ex.enc) hx
   have hw1:IntKind.i64.wrap ((k:Int)+1)=((k+1:Nat):Int):=by rw [BF (by omega) (by omega)];omega
   have hxm:=hr x (Ae hx)
   have hxf:(l.map f)[k]?=some (f x):=by rw [BC,hx];rfl
   generalize f x=fx at hxm hxf
   obtain ⟨o0,n0,u0,ns0,ks0,al0⟩:=x
   simp only [exA,Ex.A2,AF,AI] at he hxm
   by_cases hk0:0 < k
   · have hs2:=P7 hxf hk0 (sep:=sep)
     rw [hs2,← AT] at hs1
     have hl1:s1.length+sep.length≤100000000000000:=by rw [← hs1] at hlen;simp only [AA] at hlen;omega
     have hl2:(s1++sep).length+fx.length≤100000000000000:=by rw [← hs1] at hlen;simp only [AA] at hlen ⊢;omega
     have hc:=A6 sep hb1 hl1
     (repeat' (first|refine Run.ct rfl ?_|((first|refine Run.reg mixed ?_|refine Run.AJ ?_|(refine AH.mk rfl hc ?_;rintro _ σ1 ⟨rfl,hb2⟩)|(refine AQ rfl (fun h=>?_) (fun h=>?_)<;>try (cases h;done)))<;>try simp -implicitDefEqProofs only [BZ hlt,he,hw1,gt0,decide_eq_true hk0,AG,go_sem])|(refine ⟨fun h=>?_,fun h=>?_⟩<;>first|(cases h;done)|try simp only [h])|fail))
     have hc2:=hxm σ0 σ1 _ hH hb2 hl2
     (repeat' (first|refine Run.ct rfl ?_|((first|refine Run.reg mixed ?_|refine Run.AJ ?_|(refine ⟨fr,first,caps,rfl,hb,AH.mk (by simp only [CH,hn.1,hn.2,BH,BJ];rfl) hc2 ?_⟩;rintro _ σ2 ⟨rfl,hb3⟩)|(refine AQ rfl (fun h=>?_) (fun h=>?_)<;>try (cases h;done)))<;>try simp -implicitDefEqProofs only [hw1,go_sem])|(refine ⟨fun h=>?_,fun h=>?_⟩<;>first|(cases h;done)|try simp only [h])|fail))
     (repeat' (first|refine Run.ct rfl ?_|((first|refine Run.reg mixed ?_|refine Run.AJ ?_|(refine AQ rfl (fun h=>?_) (fun h=>?_)<;>try (cases h;done)))<;>try simp -implicitDefEqProofs only [hw1,go_sem])|(refine ⟨fun h=>?_,fun h=>?_⟩<;>first|(cases h;done)|try simp only [h])|fail))
     exact ih (k+1,_,σ2) ⟨by simp only;omega,hb3,by simp only [AT] at hs1 ⊢;exact hs1⟩ (by simp only;omega)
   · obtain rfl:k=0:=by omega
     have hs2:=P6 hxf (sep:=sep)
     rw [FQ,if_pos rfl,hs2] at hs1
     have hl2:s1.length+fx.length≤100000000000000:=by rw [← hs1] at hlen;simp only [AA] at hlen;omega
     have hc2:=hxm σ0 τ _ hH hb1 hl2
     (repeat' (first|refine Run.ct rfl ?_|((first|refine Run.reg mixed ?_|refine Run.AJ ?_|(refine ⟨fr,first,caps,rfl,hb,AH.mk (by simp only [CH,hn.1,hn.2,BH,BJ];rfl) hc2 ?_⟩;rintro _ σ2 ⟨rfl,hb3⟩)|(refine AQ rfl (fun h=>?_) (fun h=>?_)<;>try (cases h;done)))<;>try simp -implicitDefEqProofs only [BZ hlt,he,hw1,gt0,decide_eq_false hk0,AG,go_sem])|(refine ⟨fun h=>?_,fun h=>?_⟩<;>first|(cases h;done)|try simp only [h])|fail))
     (repeat' (first|refine Run.ct rfl ?_|((first|refine Run.reg mixed ?_|refine Run.AJ ?_|(refine AQ rfl (fun h=>?_) (fun h=>?_)<;>try (cases h;done)))<;>try simp -implicitDefEqProofs only [hw1,go_sem])|(refine ⟨fun h=>?_,fun h=>?_⟩<;>first|(cases h;done)|try simp only [h])|fail))
     exact ih (1,_,σ2) ⟨by simp only;omega,hb3,by simp only [AT];exact hs1⟩ (by simp only;omega)
 · have hke:k=(l.map f).length:=by rw [AG];omega
   rw [hke,LZ,A1] at hs1
   subst hs1
   (repeat' (first|refine Run.ct rfl ?_|((first|refine Run.reg mixed ?_|refine Run.AJ ?_|(refine AQ rfl (fun h=>?_) (fun h=>?_)<;>try (cases h;done)))<;>try simp -implicitDefEqProofs only [FD hlt,AG,go_sem])|(refine ⟨fun h=>?_,fun h=>?_⟩<;>first|(cases h;done)|try simp only [h])|fail))
   exact Run.fin Gu rfl (fun _ _ h=>h) (AM.le_refl _) ⟨rfl,hb1⟩
theorem Sl {H:AM→Prop} (i:Nat) {fr:FuncId} {first caps:List AV} (hb:Aw Tryz.prog fr=true) (hn:first.all AV.Ay=true∧caps.all AV.Ay=true) (sep:Str) (f:Al→Str) (l:List Al)
 (hr:∀x∈l,WX H fr (first++[alA x]++caps) i (f x)):WX H 142 [.gp i 0,.d (.str sep),.d (.sl (l.map Al.enc)),.fn fr first caps] i (Lib.join (l.map f) sep):=by
 intro σ0 σ s hH hbu hlen
 refine NM (by simp) ?_
 rw [YA]
 refine Run.slot 2 (fun hb0=>?_)
 have hb0:l.length≤9223372036854775807:=by simpa [IQ,AV.HR] using hb0
 rw [← AA] at hlen
 generalize hall:s++Lib.join (l.map f) sep=all at hlen ⊢
 (repeat' (first|refine Run.ct rfl ?_|((first|refine Run.reg mixed ?_|refine Run.AJ ?_|(refine AQ rfl (fun h=>?_) (fun h=>?_)<;>try (cases h;done)))<;>try simp -implicitDefEqProofs only [AG,go_sem])|(refine ⟨fun h=>?_,fun h=>?_⟩<;>first|(cases h;done)|try simp only [h])|fail))
 refine Run.Ba ?_
 refine Run.Bd ((fun (a0:AV) (a1:AV) (a3:AV) (a10:AV) (a11:AV)=>fun (y:Nat×List UInt8×AM)=>put 0 a0 (put 1 a1 (put 3 a3 (put 10 a10 (put 11 a11 (put 12 (.d (.int .i64 y.1)) U)))))) _ _ _ _ _) (fun _=>E) (fun y=>y.2.2) (fun y=>y.1≤l.length∧BuS σ0 i y.2.1 y.2.2∧y.2.1++FQ sep (l.map f) y.1=all) (fun y=>l.length - y.1) ?_ (0,s,σ) ⟨by simp,hbu,hall⟩
 rintro ⟨k,s1,τ⟩ ⟨hk,hb1,hs1⟩ ih
 simp only at hk hb1 hs1
 by_cases hlt:k < l.length
 · obtain ⟨x,hx⟩:=C7 hlt
   have he:=CR (enc:=Al.enc) hx
   have hw1:IntKind.i64.wrap ((k:Int)+1)=((k+1:Nat):Int):=by rw [BF (by omega) (by omega)];omega
   have hxm:=hr x (Ae hx)
   have hxf:(l.map f)[k]?=some (f x):=by rw [BC,hx];rfl
   generalize f x=fx at hxm hxf
   obtain ⟨c0,vs0,⟨o0,n0,u0,ns0,ks0,al0⟩⟩:=x
   simp only [alA,Al.A2,AF,AI] at he hxm
   by_cases hk0:0 < k
   · have hs2:=P7 hxf hk0 (sep:=sep)
     rw [hs2,← AT] at hs1
     have hl1:s1.length+sep.length≤100000000000000:=by rw [← hs1] at hlen;simp only [AA] at hlen;omega
     have hl2:(s1++sep).length+fx.length≤100000000000000:=by rw [← hs1] at hlen;simp only [AA] at hlen ⊢;omega
     have hc:=A6 sep hb1 hl1
     (repeat' (first|refine Run.ct rfl ?_|((first|refine Run.reg mixed ?_|refine Run.AJ ?_|(refine AH.mk rfl hc ?_;rintro _ σ1 ⟨rfl,hb2⟩)|(refine AQ rfl (fun h=>?_) (fun h=>?_)<;>try (cases h;done)))<;>try simp -implicitDefEqProofs only [BZ hlt,he,hw1,gt0,decide_eq_true hk0,AG,go_sem])|(refine ⟨fun h=>?_,fun h=>?_⟩<;>first|(cases h;done)|try simp only [h])|fail))
     have hc2:=hxm σ0 σ1 _ hH hb2 hl2
     (repeat' (first|refine Run.ct rfl ?_|((first|refine Run.reg mixed ?_|refine Run.AJ ?_|(refine ⟨fr,first,caps,rfl,hb,AH.mk (by simp only [CH,hn.1,hn.2,BH,BJ];rfl) hc2 ?_⟩;rintro _ σ2 ⟨rfl,hb3⟩)|(refine AQ rfl (fun h=>?_) (fun h=>?_)<;>try (cases h;done)))<;>try simp -implicitDefEqProofs only [hw1,go_sem])|(refine ⟨fun h=>?_,fun h=>?_⟩<;>first|(cases h;done)|try simp only [h])|fail))
     (repeat' (first|refine Run.ct rfl ?_|((first|refine Run.reg mixed ?_|refine Run.AJ ?_|(refine AQ rfl (fun h=>?_) (fun h=>?_)<;>try (cases h;done)))<;>try simp -implicitDefEqProofs only [hw1,go_sem])|(refine ⟨fun h=>?_,fun h=>?_⟩<;>first|(cases h;done)|try simp only [h])|fail))
     exact ih (k+1,_,σ2) ⟨by simp only;omega,hb3,by simp only [AT] at hs1 ⊢;exact hs1⟩ (by simp only;omega)
   · obtain rfl:k=0:=by omega
     have hs2:=P6 hxf (sep:=sep)
     rw [FQ,if_pos rfl,hs2] at hs1
     have hl2:s1.length+fx.length≤100000000000000:=by rw [← hs1] at hlen;simp only [AA] at hlen;omega
     have hc2:=hxm σ0 τ _ hH hb1 hl2
     (repeat' (first|refine Run.ct rfl ?_|((first|refine Run.reg mixed ?_|refine Run.AJ ?_|(refine ⟨fr,first,caps,rfl,hb,AH.mk (by simp only [CH,hn.1,hn.2,BH,BJ];rfl) hc2 ?_⟩;rintro _ σ2 ⟨rfl,hb3⟩)|(refine AQ rfl (fun h=>?_) (fun h=>?_)<;>try (cases h;done)))<;>try simp -implicitDefEqProofs only [BZ hlt,he,hw1,gt0,decide_eq_false hk0,AG,go_sem])|(refine ⟨fun h=>?_,fun h=>?_⟩<;>first|(cases h;done)|try simp only [h])|fail))
     (repeat' (first|refine Run.ct rfl ?_|((first|refine Run.reg mixed ?_|refine Run.AJ ?_|(refine AQ rfl (fun h=>?_) (fun h=>?_)<;>try (cases h;done)))<;>try simp -implicitDefEqProofs only [hw1,go_sem])|(refine ⟨fun h=>?_,fun h=>?_⟩<;>first|(cases h;done)|try simp only [h])|fail))
     exact ih (1,_,σ2) ⟨by simp only;omega,hb3,by simp only [AT];exact hs1⟩ (by simp only;omega)
 · have hke:k=(l.map f).length:=by rw [AG];omega
   rw [hke,LZ,A1] at hs1
   subst hs1
   (repeat' (first|refine Run.ct rfl ?_|((first|refine Run.reg mixed ?_|refine Run.AJ ?_|(refine AQ rfl (fun h=>?_) (fun h=>?_)<;>try (cases h;done)))<;>try simp -implicitDefEqProofs only [FD hlt,AG,go_sem])|(refine ⟨fun h=>?_,fun h=>?_⟩<;>first|(cases h;done)|try simp only [h])|fail))
   exact Run.fin HQ rfl (fun _ _ h=>h) (AM.le_refl _) ⟨rfl,hb1⟩
theorem NQ {H:AM→Prop} (i:Nat) {fr:FuncId} {first caps:List AV} (hb:Aw Tryz.prog fr=true) (hn:first.all AV.Ay=true∧caps.all AV.Ay=true) (f:Str→Str) (l:List Str)
 (hr:∀x∈l,WX H fr (first++[(fun x:Str=>.d (.str x)) x]++caps) i (f x)):WX H 79 [.gp i 0,.d (.sl (l.map B0)),.fn fr first caps] i (Fw (l.map f)):=by
 intro σ0 σ s hH hbu hlen
 refine OX (by simp) ?_
 rw [Hg]
 by_cases hl0:0 < l.length
 · rw [Fw,if_neg (by intro e;rw [List.map_eq_nil_iff] at e;subst e;exact absurd hl0 (by simp)),Fk,cms] at hlen ⊢
   simp only [AB,AA,AE] at hlen
   (repeat' (first|refine Run.ct rfl ?_|((first|refine Run.reg mixed ?_|refine Run.AJ ?_|(refine AH.mk rfl (A6 [40] hbu (by simp only [AB,AE];omega)) ?_;rintro _ σ1 ⟨rfl,hb1⟩)|(refine AQ rfl (fun h=>?_) (fun h=>?_)<;>try (cases h;done)))<;>try simp -implicitDefEqProofs only [AG,gt0,decide_eq_true hl0,go_sem])|(refine ⟨fun h=>?_,fun h=>?_⟩<;>first|(cases h;done)|try simp only [h])|fail))
   (repeat' (first|refine Run.ct rfl ?_|((first|refine Run.reg mixed ?_|refine Run.AJ ?_|(refine AH.mk (by simp [hn,AV.Ay]) (Tc i hb hn [44,32] f l hr σ0 σ1 _ hH hb1 (by simp only [AA,AB,AE];omega)) ?_;rintro _ σ2 ⟨rfl,hb2⟩)|(refine AQ rfl (fun h=>?_) (fun h=>?_)<;>try (cases h;done)))<;>try simp -implicitDefEqProofs only [go_sem])|(refine ⟨fun h=>?_,fun h=>?_⟩<;>first|(cases h;done)|try simp only [h])|fail))
   (repeat' (first|refine Run.ct rfl ?_|((first|refine Run.reg mixed ?_|refine Run.AJ ?_|(refine AH.mk rfl (A6 [41] hb2 (by simp only [AA,AB,AE];omega)) ?_;rintro _ σ3 ⟨rfl,hb3⟩)|(refine AQ rfl (fun h=>?_) (fun h=>?_)<;>try (cases h;done)))<;>try simp -implicitDefEqProofs only [go_sem])|(refine ⟨fun h=>?_,fun h=>?_⟩<;>first|(cases h;done)|try simp only [h])|fail))
   refine Run.fin FW rfl (fun _ _ h=>h) (AM.le_refl _) ⟨rfl,?_⟩
   have e:s++40::(Lib.join (l.map f) [44,32]++[41])=s++[40]++Lib.join (l.map f) [44,32]++[41]:=by simp
   rw [e];exact hb3
 · obtain rfl:l=[]:=As (by omega)
   (repeat' (first|refine Run.ct rfl ?_|((first|refine Run.reg mixed ?_|refine Run.AJ ?_|(refine AQ rfl (fun h=>?_) (fun h=>?_)<;>try (cases h;done)))<;>try simp -implicitDefEqProofs only [AG,gt0,decide_eq_false hl0,go_sem])|(refine ⟨fun h=>?_,fun h=>?_⟩<;>first|(cases h;done)|try simp only [h])|fail))
   simp only [AI,Fw,if_true,A1]
   exact Run.fin FW rfl (fun _ _ h=>h) (AM.le_refl _) ⟨rfl,hbu⟩
theorem IB {H:AM→Prop} (i:Nat) {fr:FuncId} {first caps:List AV} (hb:Aw Tryz.prog fr=true) (hn:first.all AV.Ay=true∧caps.all AV.Ay=true) (f:TE→Str) (l:List TE)
 (hr:∀x∈l,WX H fr (first++[teA x]++caps) i (f x)):WX H 83 [.gp i 0,.d (.sl (l.map TE.enc)),.fn fr first caps] i (Fw (l.map f)):=by
 intro σ0 σ s hH hbu hlen
 refine KO (by simp) ?_
 rw [Hg]
 by_cases hl0:0 < l.length
 · rw [Fw,if_neg (by intro e;rw [List.map_eq_nil_iff] at e;subst e;exact absurd hl0 (by simp)),Fk,cms] at hlen ⊢
   simp only [AB,AA,AE] at hlen
   (repeat' (first|refine Run.ct rfl ?_|((first|refine Run.reg mixed ?_|refine Run.AJ ?_|(refine AH.mk rfl (A6 [40] hbu (by simp only [AB,AE];omega)) ?_;rintro _ σ1 ⟨rfl,hb1⟩)|(refine AQ rfl (fun h=>?_) (fun h=>?_)<;>try (cases h;done)))<;>try simp -implicitDefEqProofs only [AG,gt0,decide_eq_true hl0,go_sem])|(refine ⟨fun h=>?_,fun h=>?_⟩<;>first|(cases h;done)|try simp only [h])|fail))
   (repeat' (first|refine Run.ct rfl ?_|((first|refine Run.reg mixed ?_|refine Run.AJ ?_|(refine AH.mk (by simp [hn,AV.Ay]) (Hf i hb hn [44,32] f l hr σ0 σ1 _ hH hb1 (by simp only [AA,AB,AE];omega)) ?_;rintro _ σ2 ⟨rfl,hb2⟩)|(refine AQ rfl (fun h=>?_) (fun h=>?_)<;>try (cases h;done)))<;>try simp -implicitDefEqProofs only [go_sem])|(refine ⟨fun h=>?_,fun h=>?_⟩<;>first|(cases h;done)|try simp only [h])|fail))
   (repeat' (first|refine Run.ct rfl ?_|((first|refine Run.reg mixed ?_|refine Run.AJ ?_|(refine AH.mk rfl (A6 [41] hb2 (by simp only [AA,AB,AE];omega)) ?_;rintro _ σ3 ⟨rfl,hb3⟩)|(refine AQ rfl (fun h=>?_) (fun h=>?_)<;>try (cases h;done)))<;>try simp -implicitDefEqProofs only [go_sem])|(refine ⟨fun h=>?_,fun h=>?_⟩<;>first|(cases h;done)|try simp only [h])|fail))
   refine Run.fin Dq rfl (fun _ _ h=>h) (AM.le_refl _) ⟨rfl,?_⟩
   have e:s++40::(Lib.join (l.map f) [44,32]++[41])=s++[40]++Lib.join (l.map f) [44,32]++[41]:=by simp
   rw [e];exact hb3
 · obtain rfl:l=[]:=As (by omega)
   (repeat' (first|refine Run.ct rfl ?_|((first|refine Run.reg mixed ?_|refine Run.AJ ?_|(refine AQ rfl (fun h=>?_) (fun h=>?_)<;>try (cases h;done)))<;>try simp -implicitDefEqProofs only [AG,gt0,decide_eq_false hl0,go_sem])|(refine ⟨fun h=>?_,fun h=>?_⟩<;>first|(cases h;done)|try simp only [h])|fail))
   simp only [AI,Fw,if_true,A1]
   exact Run.fin Dq rfl (fun _ _ h=>h) (AM.le_refl _) ⟨rfl,hbu⟩
theorem S3 {H:AM→Prop} (i:Nat) {fr:FuncId} {first caps:List AV} (hb:Aw Tryz.prog fr=true) (hn:first.all AV.Ay=true∧caps.all AV.Ay=true) (f:Ex→Str) (l:List Ex)
 (hr:∀x∈l,WX H fr (first++[exA x]++caps) i (f x)):WX H 148 [.gp i 0,.d (.sl (l.map Ex.enc)),.fn fr first caps] i (Fw (l.map f)):=by
 intro σ0 σ s hH hbu hlen
 refine NL (by simp) ?_
 rw [Hg]
 by_cases hl0:0 < l.length
 · rw [Fw,if_neg (by intro e;rw [List.map_eq_nil_iff] at e;subst e;exact absurd hl0 (by simp)),Fk,cms] at hlen ⊢
   simp only [AB,AA,AE] at hlen
   (repeat' (first|refine Run.ct rfl ?_|((first|refine Run.reg mixed ?_|refine Run.AJ ?_|(refine AH.mk rfl (A6 [40] hbu (by simp only [AB,AE];omega)) ?_;rintro _ σ1 ⟨rfl,hb1⟩)|(refine AQ rfl (fun h=>?_) (fun h=>?_)<;>try (cases h;done)))<;>try simp -implicitDefEqProofs only [AG,gt0,decide_eq_true hl0,go_sem])|(refine ⟨fun h=>?_,fun h=>?_⟩<;>first|(cases h;done)|try simp only [h])|fail))
   (repeat' (first|refine Run.ct rfl ?_|((first|refine Run.reg mixed ?_|refine Run.AJ ?_|(refine AH.mk (by simp [hn,AV.Ay]) (KG i hb hn [44,32] f l hr σ0 σ1 _ hH hb1 (by simp only [AA,AB,AE];omega)) ?_;rintro _ σ2 ⟨rfl,hb2⟩)|(refine AQ rfl (fun h=>?_) (fun h=>?_)<;>try (cases h;done)))<;>try simp -implicitDefEqProofs only [go_sem])|(refine ⟨fun h=>?_,fun h=>?_⟩<;>first|(cases h;done)|try simp only [h])|fail))
   (repeat' (first|refine Run.ct rfl ?_|((first|refine Run.reg mixed ?_|refine Run.AJ ?_|(refine AH.mk rfl (A6 [41] hb2 (by simp only [AA,AB,AE];omega)) ?_;rintro _ σ3 ⟨rfl,hb3⟩)|(refine AQ rfl (fun h=>?_) (fun h=>?_)<;>try (cases h;done)))<;>try simp -implicitDefEqProofs only [go_sem])|(refine ⟨fun h=>?_,fun h=>?_⟩<;>first|(cases h;done)|try simp only [h])|fail))
   refine Run.fin Es rfl (fun _ _ h=>h) (AM.le_refl _) ⟨rfl,?_⟩
   have e:s++40::(Lib.join (l.map f) [44,32]++[41])=s++[40]++Lib.join (l.map f) [44,32]++[41]:=by simp
   rw [e];exact hb3
 · obtain rfl:l=[]:=As (by omega)
   (repeat' (first|refine Run.ct rfl ?_|((first|refine Run.reg mixed ?_|refine Run.AJ ?_|(refine AQ rfl (fun h=>?_) (fun h=>?_)<;>try (cases h;done)))<;>try simp -implicitDefEqProofs only [AG,gt0,decide_eq_false hl0,go_sem])|(refine ⟨fun h=>?_,fun h=>?_⟩<;>first|(cases h;done)|try simp only [h])|fail))
   simp only [AI,Fw,if_true,A1]
   exact Run.fin Es rfl (fun _ _ h=>h) (AM.le_refl _) ⟨rfl,hbu⟩
end Go.Ab
