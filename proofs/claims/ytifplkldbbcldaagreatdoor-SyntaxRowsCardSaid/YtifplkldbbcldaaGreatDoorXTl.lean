/- Keywords and numbers of the reference. Signs, numbers and prefixes. Prefixes and tokens. One token. Texts split into tokens. Conditions: none. -/
import Derived.Test.YtifplkldbbcldaaGreatDoorXLfP
set_option linter.unusedSimpArgs false
set_option linter.unusedVariables false
set_option maxRecDepth 4000
set_option maxHeartbeats 8000000
open List renaming length_map→AE,drop_length→Q5,take_succ_cons→TM,take_zero→K0,takeWhile_cons→Bg,getElem?_drop→BJ,drop_drop→CH,length_append→AA
open Bool renaming false_or→MZ,eq_iff_iff→Di,or_false→M0,or_true→ON,false_eq_true→AU,and_true→BF,true_and→BG,and_false→D5,false_and→FJ
open Nat renaming lt_or_ge→Cl,le_refl→A7
namespace Go.Ab
open Go.Proofs
theorem ZW (s:Str) (σ:AN):AQ Tryz.prog 72 [.d (.str s)] σ (fun v σ'=>v= .d (.bool (Rs s))∧σ'=σ):=by
 refine bC (by simp) ?_
 rw [BE]
 (repeat (first
   |refine Run.seq ?_
   |refine Run.skip ?_
   |refine Run.block ?_
   |refine Run.blk ?_
   |refine Run.scope ?_
   |refine Run.scp ?_
   |(refine Run.exit rfl ?_)
   |(refine Run.reg mixed ?_;simp -implicitDefEqProofs only [go_sem])
   |(refine Run.AJ ?_;simp -implicitDefEqProofs only [go_sem])))
 refine Run.Be ?_
 refine Run.Bn ((fun (a0:AV)=>fun (i:Nat)=>put 0 a0 (put 3 (.d (.sl (FM.map D3))) (put 4 (.d (.int .i64 i)) U))) _) (fun _=>E) (fun _=>σ) (fun i=>i≤FM.length∧Rs s=(FM.drop i).any (s==·)) (fun i=>FM.length - i) ?_ 0 ⟨by omega,rfl⟩
 rintro i ⟨hi,hs⟩ ih
 by_cases hlt:i < FM.length
 · obtain ⟨x,hx⟩:=Bw hlt
   have he:=Bh (enc:=D3) hx
   rw [Ec hx,List.any_cons] at hs
   (repeat' (first|refine Run.ct rfl ?_|((first|refine Run.reg mixed ?_|refine Run.AJ ?_|refine Run.A9 P7 (AN.le_refl _) ?_)<;>try simp -implicitDefEqProofs only [AE,BX hlt,he,D3,Ba (show i+1≤9000000000000000000 by have:FM.length=28:=rfl;omega),go_sem])|(refine ⟨fun h=>?_,fun h=>?_⟩<;>first|(cases h;done)|try simp only [h])|fail))
   · rw [hs];simp_all
   · refine ih (i+1) ⟨hlt,?_⟩ (by omega)
     rw [hs,show (s==x)=(x==s) from BEq.comm,h,MZ]
 · have hge:i=FM.length:=by omega
   (repeat' (first|refine Run.ct rfl ?_|((first|refine Run.reg mixed ?_|refine Run.AJ ?_|refine Run.A9 P7 (AN.le_refl _) ?_)<;>try simp -implicitDefEqProofs only [AE,F2 hlt,go_sem])|fail))
   rw [hs,hge];rfl
def FC:Str→Int→Option Int
 |[],v=>some v
 |b::r,v=>if v * 10+IntKind.u8.wrap ((b.toNat:Int) - 48)>1000000 then none else FC r (v * 10+IntKind.u8.wrap ((b.toNat:Int) - 48))
theorem xK (a:Int):0≤IntKind.u8.wrap a∧IntKind.u8.wrap a≤255:=by
 have h1:IntKind.u8.wrap a=a % 256:=by rfl
 rw [h1];omega
theorem eL (s:Str) (σ:AN) (hl:s.length≤1000000000):AQ Tryz.prog 73 [.d (.str s)] σ (fun v σ'=>v=(match FC s 0 with|some n=>.tup [.d (.int .i64 n),.d (.bool true)]|none=>.tup [.d (.int .i64 0),.d (.bool false)])∧σ'=σ):=by
 refine gY (by simp) ?_
 rw [BE]
 (repeat (first
   |refine Run.seq ?_
   |refine Run.skip ?_
   |refine Run.block ?_
   |refine Run.blk ?_
   |refine Run.scope ?_
   |refine Run.scp ?_
   |(refine Run.exit rfl ?_)
   |(refine Run.reg mixed ?_;simp -implicitDefEqProofs only [go_sem])
   |(refine Run.AJ ?_;simp -implicitDefEqProofs only [go_sem])))
 refine Run.Be ?_
 refine Run.Bn ((fun (a0:AV)=>fun (y:Nat×Int)=>put 0 a0 (put 4 (.d (.int .i64 y.2)) (put 5 (.d (.int .i64 y.1)) U))) _) (fun _=>E) (fun _=>σ) (fun y=>y.1≤s.length∧0≤y.2∧y.2≤1000000∧FC s 0=FC (s.drop y.1) y.2) (fun y=>s.length - y.1) ?_ (0,0) ⟨by simp,by simp,by simp,rfl⟩
 rintro ⟨i,v⟩ ⟨hi,h0,h1,hs⟩ ih
 simp only at hi h0 h1 hs
 by_cases hlt:i < s.length
 · obtain ⟨x,hx⟩:=Bw hlt
   rw [Ec hx,FC] at hs
   have hu:=xK ((x.toNat:Int) - 48)
   have e1:IntKind.i64.wrap (v * 10)=v * 10:=Ax (by omega) (by omega)
   have e2:IntKind.i64.wrap (IntKind.u8.wrap ((x.toNat:Int) - 48))=IntKind.u8.wrap ((x.toNat:Int) - 48):=Ax (by omega) (by omega)
   have e3:IntKind.i64.wrap (v * 10+IntKind.u8.wrap ((x.toNat:Int) - 48))=v * 10+IntKind.u8.wrap ((x.toNat:Int) - 48):=Ax (by omega) (by omega)
   (repeat' (first|refine Run.ct rfl ?_|((first|refine Run.reg mixed ?_|refine Run.AJ ?_|refine Run.A9 Ts (AN.le_refl _) ?_)<;>try simp -implicitDefEqProofs only [BX hlt,DD hx,e1,e2,e3,Ba (show i+1≤9000000000000000000 by omega),go_sem])|(refine ⟨fun h=>?_,fun h=>?_⟩<;>first|(cases h;done)|try simp only [h])|fail))
   · have:v * 10+IntKind.u8.wrap ((x.toNat:Int) - 48)>1000000:=by simpa using h
     rw [hs,if_pos this]
   · have:¬v * 10+IntKind.u8.wrap ((x.toNat:Int) - 48)>1000000:=by simpa using h
     rw [if_neg this] at hs
     exact ih (i+1,_) ⟨hlt,by simp only;omega,by simp only;omega,hs⟩ (by simp only;omega)
 · have hge:i=s.length:=by omega
   (repeat' (first|refine Run.ct rfl ?_|((first|refine Run.reg mixed ?_|refine Run.AJ ?_|refine Run.A9 Ts (AN.le_refl _) ?_)<;>try simp -implicitDefEqProofs only [F2 hlt,go_sem])|fail))
   rw [hs,hge,Q5,FC]
end Go.Ab
namespace Go.Ab
open Go.Proofs
def Wn:Str:=[40,41,44,61,124,43,45,42,47,37,60,59,95]
def PF (b:UInt8):Nat:=if Wn.any (b==·) then 1 else 0
def VA (b c:UInt8):Bool:=([b,c]==[45,62])||([b,c]==[60,61])||([b,c]==[61,61])
def EV:Str→Nat
 |[]=>0
 |[b]=>PF b
 |b::c::_=>if VA b c then 2 else PF b
theorem xD:decide ((2:Int)≤((1:Nat):Int))=false:=rfl
theorem xE (n:Nat):decide ((2:Int)≤((n+1+1:Nat):Int))=true:=by simp;omega
theorem AAR (b c:UInt8):([b]==[c])=(b==c):=by
 rw [Di];simp
set_option maxHeartbeats 4000000 in
theorem Z2 (s:Str) (σ:AN) (hs:s≠[]):AQ Tryz.prog 119 [.d (.str s)] σ (fun v σ'=>v= .d (.str (s.take (EV s)))∧σ'=σ):=by
 match s,hs with
 |[b],_=>
  refine Ug (by simp) ?_
  rw [BE]
  (repeat' (first|refine Run.ct rfl ?_|((first|refine Run.reg mixed ?_|refine Run.AJ ?_|refine Run.A9 P8 (AN.le_refl _) ?_)<;>try simp -implicitDefEqProofs only [xD,xI,AAR,go_sem])|(refine ⟨fun h=>?_,fun h=>?_⟩<;>first|(cases h;done)|try simp only [h])|fail))
  all_goals simp only [EV,PF,Wn,List.any_cons,List.any_nil,M0,MZ,Bool.true_or,ON,reduceIte,TM,K0,AU,and_self, *]
 |b::c::r,_=>
  refine Ug (by simp) ?_
  rw [BE]
  (repeat' (first|refine Run.ct rfl ?_|((first|refine Run.reg mixed ?_|refine Run.AJ ?_|refine Run.A9 P8 (AN.le_refl _) ?_)<;>try simp -implicitDefEqProofs only [xE,xI,xJ,AAR,go_sem])|(refine ⟨fun h=>?_,fun h=>?_⟩<;>first|(cases h;done)|try simp only [h])|fail))
  all_goals simp only [EV,VA,PF,Wn,List.any_cons,List.any_nil,M0,MZ,Bool.true_or,ON,reduceIte,TM,K0,AU,and_self, *]
theorem Yl (s:Str) (σ:AN) (hl:s.length≤1000000000):AQ Tryz.prog 118 [.d (.str s)] σ (fun v σ'=>v= .d (.bool (FC s 0).isSome)∧σ'=σ):=by
 refine ZT (by simp) ?_
 rw [BE]
 (repeat (first
   |refine Run.seq ?_
   |refine Run.skip ?_
   |refine Run.block ?_
   |refine Run.blk ?_
   |refine Run.scope ?_
   |refine Run.scp ?_
   |(refine Run.exit rfl ?_)
   |(refine Run.reg mixed ?_;simp -implicitDefEqProofs only [go_sem])
   |(refine Run.AJ ?_;simp -implicitDefEqProofs only [go_sem])))
 refine Run.Be ?_
 refine Run.Bn ((fun (a0:AV) (a6:AV)=>fun (y:Nat×Int)=>put 0 a0 (put 3 (.d (.int .i64 y.2)) (put 6 a6 (put 7 (.d (.int .i64 y.1)) U)))) _ _) (fun _=>E) (fun _=>σ) (fun y=>y.1≤s.length∧0≤y.2∧y.2≤1000000∧FC s 0=FC (s.drop y.1) y.2) (fun y=>s.length - y.1) ?_ (0,0) ⟨by simp,by simp,by simp,rfl⟩
 rintro ⟨i,v⟩ ⟨hi,h0,h1,hs⟩ ih
 simp only at hi h0 h1 hs
 by_cases hlt:i < s.length
 · obtain ⟨x,hx⟩:=Bw hlt
   rw [Ec hx,FC] at hs
   have hu:=xK ((x.toNat:Int) - 48)
   have e1:IntKind.i64.wrap (v * 10)=v * 10:=Ax (by omega) (by omega)
   have e2:IntKind.i64.wrap (IntKind.u8.wrap ((x.toNat:Int) - 48))=IntKind.u8.wrap ((x.toNat:Int) - 48):=Ax (by omega) (by omega)
   have e3:IntKind.i64.wrap (v * 10+IntKind.u8.wrap ((x.toNat:Int) - 48))=v * 10+IntKind.u8.wrap ((x.toNat:Int) - 48):=Ax (by omega) (by omega)
   (repeat' (first|refine Run.ct rfl ?_|((first|refine Run.reg mixed ?_|refine Run.AJ ?_|refine Run.A9 Nt (AN.le_refl _) ?_)<;>try simp -implicitDefEqProofs only [BX hlt,DD hx,e1,e2,e3,Ba (show i+1≤9000000000000000000 by omega),go_sem])|(refine ⟨fun h=>?_,fun h=>?_⟩<;>first|(cases h;done)|try simp only [h])|fail))
   · have:v * 10+IntKind.u8.wrap ((x.toNat:Int) - 48)>1000000:=by simpa using h
     rw [hs,if_pos this];rfl
   · have:¬v * 10+IntKind.u8.wrap ((x.toNat:Int) - 48)>1000000:=by simpa using h
     rw [if_neg this] at hs
     exact ih (i+1,_) ⟨hlt,by simp only;omega,by simp only;omega,hs⟩ (by simp only;omega)
 · have hge:i=s.length:=by omega
   (repeat' (first|refine Run.ct rfl ?_|((first|refine Run.reg mixed ?_|refine Run.AJ ?_|refine Run.A9 Nt (AN.le_refl _) ?_)<;>try simp -implicitDefEqProofs only [F2 hlt,go_sem])|fail))
   rw [hs,hge,Q5,FC];rfl
end Go.Ab
namespace Go.Ab
open Go.Proofs
def Bf (c:Int→Bool) (b:UInt8):Bool:=c b.toNat
theorem En {c:UInt8→Bool} {s:Str} {i:Nat} (h:∀j b,j < i→s[j]?=some b→c b=true) (hi:i≤s.length) (he:∀b,s[i]?=some b→c b=false):s.takeWhile c=s.take i:=by
 induction i generalizing s with
 |zero=>
  cases s with
  |nil=>rfl
  |cons b r=>simp [he b rfl]
 |succ i ih=>
  cases s with
  |nil=>simp at hi
  |cons b r=>
   have hb:c b=true:=h 0 b (by omega) rfl
   rw [Bg,hb,if_pos rfl,TM,ih (fun j b hj hb=>h (j+1) b (by omega) hb) (by simpa using hi) (fun b hb=>he b hb)]
theorem Q3 {fid:FuncId} (hb:Ar Tryz.prog fid=true) (c:Int→Bool) (hc:∀n σ,AQ Tryz.prog fid [.d (.int .u8 n)] σ (fun v σ'=>v= .d (.bool (c n))∧σ'=σ)) (s:Str) (σ:AN) (hl:s.length≤1000000000):
 AQ Tryz.prog 114 [.d (.str s),.fn fid [] []] σ (fun v σ'=>v= .d (.str (s.takeWhile (Bf c)))∧σ'=σ):=by
 refine Xr (by simp) ?_
 rw [BI]
 (repeat (first
   |refine Run.seq ?_
   |refine Run.skip ?_
   |refine Run.block ?_
   |refine Run.blk ?_
   |refine Run.scope ?_
   |refine Run.scp ?_
   |(refine Run.exit rfl ?_)
   |(refine Run.reg mixed ?_;simp -implicitDefEqProofs only [go_sem])
   |(refine Run.AJ ?_;simp -implicitDefEqProofs only [go_sem])))
 refine Run.Be ?_
 refine Run.Bn ((fun (a0:AV) (a1:AV)=>fun (i:Nat)=>put 0 a0 (put 1 a1 (put 5 (.d (.int .i64 i)) U))) _ _) (fun _=>E) (fun _=>σ) (fun i=>i≤s.length∧∀j b,j < i→s[j]?=some b→Bf c b=true) (fun i=>s.length - i) ?_ 0 ⟨by simp,by simp⟩
 rintro i ⟨hi,hs⟩ ih
 by_cases hlt:i < s.length
 · obtain ⟨x,hx⟩:=Bw hlt
   (repeat' (first|refine Run.ct rfl ?_|((first|refine Run.reg mixed ?_|refine Run.AJ ?_|(refine ⟨fid,[],[],rfl,hb,AH.det (hc _ _) ?_⟩)|refine Run.A9 Ml (AN.le_refl _) ?_)<;>try simp -implicitDefEqProofs only [BX hlt,DD hx,cE hi,Ba (show i+1≤9000000000000000000 by omega),go_sem])|(refine ⟨fun h=>?_,fun h=>?_⟩<;>first|(cases h;done)|try simp only [h])|fail))
   · refine ih (i+1) ⟨hlt,fun j b hj hb=>?_⟩ (by omega)
     rcases Cl j i with h2|h2
     · exact hs j b h2 hb
     · have:j=i:=by omega
       subst this
       rw [hx] at hb;cases hb;exact h
   · rw [En hs hi (fun b hb=>by rw [hx] at hb;cases hb;exact h)]
 · have hge:i=s.length:=by omega
   (repeat' (first|refine Run.ct rfl ?_|((first|refine Run.reg mixed ?_|refine Run.AJ ?_|refine Run.A9 Ml (AN.le_refl _) ?_)<;>try simp -implicitDefEqProofs only [F2 hlt,cE hi,go_sem])|fail))
   rw [En hs hi (fun b hb=>by rw [hge] at hb;simp at hb)]
theorem jA (s:Str) (σ:AN) (hs:s≠[]):AQ Tryz.prog 74 [.d (.str s)] σ (fun v σ'=>v= .d (.int .i64 (EV s))∧σ'=σ):=by
 have hloop:∀(b:UInt8) (r:Str),(EV (b::r)=PF b)→Run MY (fun v σ'=>v= .d (.int .i64 (EV (b::r)))∧σ'=σ) [.again UZ,.blk 0,.code (.seq (.reg [⟨some 2,.mv (.c (.d (.int .i64 0))),none⟩] [2]) .ret)] (put 0 (.d (.str (b::r))) (put 3 (.d (.str Wn)) (put 4 (.d (.int .i64 0)) U))) E σ:=by
  intro b r hbr
  refine Run.Bn ((fun (a0:AV) (a3:AV)=>fun (i:Nat)=>put 0 a0 (put 3 a3 (put 4 (.d (.int .i64 i)) U))) _ _) (fun _=>E) (fun _=>σ) (fun i=>i≤Wn.length∧Wn.any (b==·)=(Wn.drop i).any (b==·)) (fun i=>Wn.length - i) ?_ 0 ⟨by simp,rfl⟩
  rintro i ⟨hi,hs⟩ ih
  have hn:Wn.length=13:=rfl
  have h0:(b::r)[0]?=some b:=rfl
  by_cases hlt:i < Wn.length
  · obtain ⟨x,hx⟩:=Bw hlt
    rw [Ec hx,List.any_cons] at hs
    have hz:=DD h0 .i64
    rw [show ((0:Nat):Int)=0 from rfl] at hz
    (repeat' (first|refine Run.ct rfl ?_|((first|refine Run.reg mixed ?_|refine Run.AJ ?_|refine Run.A9 OZ (AN.le_refl _) ?_)<;>try simp -implicitDefEqProofs only [BX hlt,DD hx,hz,wL,Ba (show i+1≤9000000000000000000 by omega),go_sem])|(refine ⟨fun h=>?_,fun h=>?_⟩<;>first|(cases h;done)|try simp only [h])|fail))
    · rw [hbr,PF,hs,h];rfl
    · exact ih (i+1) ⟨hlt,by rw [hs,h];rfl⟩ (by omega)
  · have hge:i=Wn.length:=by omega
    (repeat' (first|refine Run.ct rfl ?_|((first|refine Run.reg mixed ?_|refine Run.AJ ?_|refine Run.A9 OZ (AN.le_refl _) ?_)<;>try simp -implicitDefEqProofs only [F2 hlt,go_sem])|fail))
    rw [hbr,PF,hs,hge];rfl
 match s,hs with
 |[b],_=>
  refine Zl (by simp) ?_
  rw [BE]
  (repeat' (first|refine Run.ct rfl ?_|((first|refine Run.reg mixed ?_|refine Run.AJ ?_|refine Run.A9 OZ (AN.le_refl _) ?_)<;>try simp -implicitDefEqProofs only [xD,go_sem])|fail))
  exact Run.Be (hloop b [] rfl)
 |b::c::r,_=>
  refine Zl (by simp) ?_
  rw [BE]
  (repeat' (first|refine Run.ct rfl ?_|((first|refine Run.reg mixed ?_|refine Run.AJ ?_|refine Run.A9 OZ (AN.le_refl _) ?_|(refine AR rfl (fun h=>?_) (fun h=>?_)<;>try (cases h;done)))<;>try simp -implicitDefEqProofs only [xE,xJ,go_sem])|(refine ⟨fun h=>?_,fun h=>?_⟩<;>first|(cases h;done)|try simp only [h])|fail))
  all_goals (first|exact Run.Be (hloop b (c::r) (by simp only [EV,VA, *];rfl))|(simp only [EV,VA, *];rfl))
end Go.Ab
namespace Go.Ab
open Go.Proofs
def CK:Str→Except Int (Int×Str)
 |[]=>.error 2
 |b::r=>
  if LC b.toNat||JX b.toNat then
   if decide (((b::r).takeWhile (Bf FH)).length>24) then .error 9
                                  else if JX b.toNat then .ok (2,(b::r).takeWhile (Bf FH))
                                  else if Rs ((b::r).takeWhile (Bf FH)) then .ok (4,(b::r).takeWhile (Bf FH))
                                  else .ok (1,(b::r).takeWhile (Bf FH))
                                  else if Dt b.toNat then
   if b==48&&decide (((b::r).takeWhile (Bf Dt)).length>1) then .error 2
                                         else if (FC ((b::r).takeWhile (Bf Dt)) 0).isSome then .ok (3,(b::r).takeWhile (Bf Dt))
                                         else .error 9
                                         else if (b::r).take (EV (b::r))==[] then .error 2
                                         else .ok (5,(b::r).take (EV (b::r)))
def oK (k:Int) (t:Str) (p:Int):AV:= .agg [.d (.int .i64 k),.d (.str t),.d (.int .i64 p)]
def eX (p:Int):Except Int (Int×Str)→AV
 | .error e=>.tup [oK 0 [] 0,.d (.int .i64 e)]
 | .ok (k,t)=>.tup [oK k t p,.d (.int .i64 0)]
theorem Du {α:Type} (p:α→Bool) (l:List α):(l.takeWhile p).length≤l.length:=(List.takeWhile_prefix p).length_le
theorem sZ (b:UInt8):((b.toNat:Int)==48)=(b==48):=wL b 48
theorem AA2 (n:Nat):decide ((24:Int) < (n:Int))=decide (n>24):=decide_eq_decide.2 (by omega)
theorem gt1 (n:Nat):decide ((1:Int) < (n:Int))=decide (n>1):=decide_eq_decide.2 (by omega)
theorem mN:Ar Tryz.prog 115=true:=by kernel_rfl
theorem qB:Ar Tryz.prog 117=true:=by kernel_rfl
theorem Te (src:Str) (i:Nat) (σ:AN) (hl:src.length≤1000000000) (hi:i < src.length):
 AQ Tryz.prog 59 [.d (.str src),.d (.int .i64 i)] σ (fun v σ'=>v=eX i (CK (src.drop i))∧σ'=σ):=by
 obtain ⟨b,hb⟩:=Bw hi
 have hd:=Ec hb
 rw [hd]
 have hld:(src.drop i).length≤1000000000:=by simp;omega
 rw [hd] at hld
 have hw1:=Du (Bf FH) (b::src.drop (i+1))
 have hw2:=Du (Bf Dt) (b::src.drop (i+1))
 have hs1:SP (.d (.str src)) (some (.d (.int .i64 (i:Int)))) none=some (.d (.str (b::src.drop (i+1)))):=by rw [sQ (by omega),hd]
 refine bD (by simp) ?_
 rw [BI]
 generalize src.drop (i+1)=r at *
 (repeat' (first|refine Run.ct rfl ?_|((first|refine Run.reg mixed ?_|refine Run.AJ ?_|refine Run.A9 Ud (AN.le_refl _) ?_|refine AH.det (SS _ _) ?_|refine AH.det (SU _ _) ?_|refine AH.det (NL _ _) ?_|refine AH.det (Vr _ _) ?_|refine AH.det (Yl _ _ (by omega)) ?_|refine AH.det (Z2 _ _ (by simp)) ?_|refine AH.det (Q3 (c:=FH) mN Wp _ _ hld) ?_|refine AH.det (Q3 (c:=Dt) qB NL _ _ hld) ?_|(refine AR rfl (fun h=>?_) (fun h=>?_)<;>try (cases h;done)))<;>try simp -implicitDefEqProofs only [DD hb,hs1,sZ,AA2,gt1,go_sem])|(refine ⟨fun h=>?_,fun h=>?_⟩<;>first|(cases h;done)|try simp only [h])|fail))
 all_goals (clear hw1 hw2 hs1 hd hld;first|(simp only [CK,eX,oK, *,ON,Bool.true_or,M0,MZ,BF,BG,D5,FJ,AU,reduceIte];done)|simp_all [CK,eX,oK])
end Go.Ab
namespace Go.Ab
open Go.Proofs
structure Tok where
 kind:Int
 text:Str
 pos:Nat
def Tok.enc (t:Tok):List DV:=[.int .i64 t.kind,.str t.text,.int .i64 t.pos]
def cmt (s:Str):Nat:=(s.takeWhile (fun c=>!(c==10))).length
def C4:Nat→Str→Nat→List Tok→List Tok×Nat×Int
 |0,_,_,_=>([],0,0)
 |n+1,rest,i,acc=>match rest with
  |[]=>(acc++[⟨6,[],i⟩],0,0)
  |b::r=>
   if Sl b.toNat then C4 n r (i+1) acc
                               else if b==35 then C4 n ((b::r).drop (cmt (b::r))) (i+cmt (b::r)) acc
                               else match CK (b::r) with
    | .error e=>([],i,e)
    | .ok (k,t)=>C4 n ((b::r).drop t.length) (i+t.length) (acc++[⟨k,t,i⟩])
def Am (s:Str):List Tok×Nat×Int:=if s.length>16384 then ([],0,9) else C4 (s.length+1) s 0 []
def Hc (r:List Tok×Nat×Int):AV:= .tup [.d (.sl (r.1.map Tok.enc)),.d (.int .i64 r.2.1),.d (.int .i64 r.2.2)]
theorem QL (b:UInt8):((b.toNat:Int)==35)=(b==35):=wL b 35
theorem cH (b:UInt8):((b.toNat:Int)==10)=(b==10):=wL b 10
theorem p9 (n:Nat):decide ((16384:Int) < (n:Int))=decide (n>16384):=decide_eq_decide.2 (by omega)
theorem NG {s:Str} {k:Int} {t:Str} (h:CK s= .ok (k,t)):1≤t.length∧t.length≤s.length:=by
 match s with
 |[]=>simp [CK] at h
 |b::r=>
  have h1:=Du (Bf FH) (b::r)
  have h2:=Du (Bf Dt) (b::r)
  simp only [CK] at h
  split at h
  · rename_i hlu
    have hw:Bf FH b=true:=by
     simp only [Bf,FH];rw [hlu];rfl
    have h3:1≤((b::r).takeWhile (Bf FH)).length:=by simp [hw]
    split at h
    · cases h
    · split at h
      · cases h;exact ⟨h3,h1⟩
      · split at h<;>(cases h;exact ⟨h3,h1⟩)
  · split at h
    · rename_i hdg
      have h3:1≤((b::r).takeWhile (Bf Dt)).length:=by simp [Bf,hdg]
      split at h
      · cases h
      · split at h<;>cases h
        exact ⟨h3,h2⟩
    · split at h
      · cases h
      · rename_i hne
        cases h
        refine ⟨?_,List.length_take_le' _ _⟩
        cases he:(b::r).take (EV (b::r)) with
        |nil=>rw [he] at hne;simp at hne
        |cons=>simp
theorem NF {s:Str} {e:Int} (h:CK s= .error e):e=2∨e=9:=by
 match s with
 |[]=>simp only [CK,Except.error.injEq] at h;omega
 |b::r=>
  simp only [CK] at h
  repeat' split at h
  all_goals first|(cases h;simp;done)|cases h
theorem SR (s:Str) (σ:AN):AQ Tryz.prog 21 [.d (.str s)] σ (fun v σ'=>v=Hc (Am s)∧σ'=σ):=by
 refine ZP (by simp) ?_
 rw [BE]
 (repeat' (first|refine Run.ct rfl ?_|((first|refine Run.reg mixed ?_|refine Run.AJ ?_|refine Run.A9 CB (AN.le_refl _) ?_)<;>try simp -implicitDefEqProofs only [p9,go_sem])|(refine ⟨fun h=>?_,fun h=>?_⟩<;>first|(cases h;done)|try simp only [h])|fail))
 · have:s.length>16384:=by simpa using h
   simp [Hc,Am,this]
 · have hl:¬s.length>16384:=by simpa using h
   refine Run.Be ?_
   refine Run.Bn ((fun (a0:AV)=>fun (y:Nat×AV×AN)=>put 0 a0 (put 5 (y.2.1) (put 6 (.d (.int .i64 y.1)) U))) _) (fun _=>E) (fun y=>y.2.2) (fun y=>y.1≤s.length∧∃acc n,E3 σ 38 3 (acc.map Tok.enc) y.2.1 y.2.2∧acc.length≤y.1∧s.length - y.1 < n∧Am s=C4 n (s.drop y.1) y.1 acc) (fun y=>s.length - y.1) ?_ (0,.AX,σ) ⟨by simp,[],s.length+1,E3.nil _ _ _,by simp,by simp,by simp [Am,hl]⟩
   rintro ⟨i,v,σ1⟩ ⟨hi,acc,n,ho,hac,hn,hs⟩ ih
   simp only at hi ho hac hn hs
   obtain ⟨n,rfl⟩:∃m,n=m+1:=⟨n - 1,by omega⟩
   by_cases hlt:i < s.length
   · obtain ⟨x,hx⟩:=Bw hlt
     rw [Ec hx,C4] at hs
     have hw1:=Ba (show i+1≤9000000000000000000 by omega)
     have hsl:(x::s.drop (i+1)).length=s.length - i:=by simp;omega
     cases hb:Sl x.toNat with
     |true=>
      rw [hb] at hs
      (repeat' (first|refine Run.ct rfl ?_|((first|refine Run.reg mixed ?_|refine Run.AJ ?_|refine Run.A9 CB (AN.le_refl _) ?_|refine AH.det (JW _ _) ?_)<;>try simp -implicitDefEqProofs only [BX hlt,DD hx,hb,hw1,go_sem])|fail))
      exact ih (i+1,v,σ1) ⟨hlt,acc,n,ho,by simp only;omega,by simp only;omega,hs⟩ (by simp only;omega)
     |false=>
      rw [hb,if_neg (by simp)] at hs
      cases hc:(x==35) with
      |true=>
       rw [hc,if_pos rfl] at hs
       (repeat' (first|refine Run.ct rfl ?_|((first|refine Run.reg mixed ?_|refine Run.AJ ?_|refine Run.A9 CB (AN.le_refl _) ?_|refine AH.det (JW _ _) ?_)<;>try simp -implicitDefEqProofs only [BX hlt,DD hx,QL,hb,hc,go_sem])|fail))
       refine Run.Ok [0,5,6] ?_;simp -implicitDefEqProofs only [go_sem]
       refine Run.Be ?_
       refine Run.Bn ((fun (a0:AV) (a5:AV)=>fun (j:Nat)=>put 0 a0 (put 5 a5 (put 6 (.d (.int .i64 j)) U))) _ _) (fun _=>E) (fun _=>σ1) (fun j=>i≤j∧j≤s.length∧∀q b,q < j - i→(s.drop i)[q]?=some b→(!(b==10))=true) (fun j=>s.length - j) ?_ i ⟨A7 i,hi,by intro q b hq;omega⟩
       rintro j ⟨hij,hj,hall⟩ ih2
       have hw2:=Ba (show j+1≤9000000000000000000 by omega)
       by_cases hjl:j < s.length
       · obtain ⟨z,hz⟩:=Bw hjl
         have hz2:(s.drop i)[j - i]?=some z:=by rw [BJ,show i+(j - i)=j by omega];exact hz
         cases h10:(z==10) with
         |true=>
          (repeat' (first|refine Run.ct rfl ?_|((first|refine Run.reg mixed ?_|refine Run.AJ ?_|refine Run.A9 CB (AN.le_refl _) ?_)<;>try simp -implicitDefEqProofs only [BX hjl,DD hz,cH,h10,go_sem])|fail))
          have hk:cmt (x::s.drop (i+1))=j - i:=by
           rw [← Ec hx,cmt,En hall (by simp;omega) (fun b hb=>by rw [hz2] at hb;cases hb;simp [h10])]
           simp;omega
          have hji:j≠i:=fun e=>by
           subst e
           rw [hx] at hz;cases hz
           simp only [beq_iff_eq] at hc h10
           rw [hc] at h10;exact absurd h10 (by decide)
          rw [hk,← Ec hx,CH,show i+(j - i)=j by omega] at hs
          refine Run.Ok [0,5,6] ?_;simp -implicitDefEqProofs only [go_sem]
          exact ih (j,v,σ1) ⟨hj,acc,n,ho,by simp only;omega,by simp only;omega,hs⟩ (by simp only;omega)
         |false=>
          (repeat' (first|refine Run.ct rfl ?_|((first|refine Run.reg mixed ?_|refine Run.AJ ?_|refine Run.A9 CB (AN.le_refl _) ?_)<;>try simp -implicitDefEqProofs only [BX hjl,DD hz,cH,h10,hw2,go_sem])|fail))
          refine ih2 (j+1) ⟨by omega,hjl,fun q b hq hb=>?_⟩ (by omega)
          rcases Cl q (j - i) with h2|h2
          · exact hall q b h2 hb
          · have:q=j - i:=by omega
            subst this
            rw [hz2] at hb;cases hb;simp [h10]
       · have hje:j=s.length:=by omega
         have hk:cmt (x::s.drop (i+1))=j - i:=by
          rw [← Ec hx,cmt,En hall (by simp;omega) (fun b hb=>by rw [BJ,show i+(j - i)=j by omega,hje] at hb;simp at hb)]
          simp;omega
         rw [hk,← Ec hx,CH,show i+(j - i)=j by omega,hje,Q5] at hs
         obtain ⟨n,rfl⟩:∃m,n=m+1:=⟨n - 1,by omega⟩
         rw [C4] at hs
         (repeat' (first|refine Run.ct rfl ?_|((first|refine Run.reg mixed ?_|refine Run.AJ ?_|(refine Io.own ho rfl (by simp) (by simp;omega) (by decide) (fun v2 σ2 ho2 hbk=>?_))|(refine Run.A9 CB ho2.le ?_)|refine Run.A9 CB (AN.le_refl _) ?_)<;>try simp -implicitDefEqProofs only [F2 hjl,go_sem])|fail))
         simp -implicitDefEqProofs only [ho2.At,ho2.plain,go_sem]
         rw [hs];simp [Hc,Tok.enc]
      |false=>
       rw [hc,if_neg (by simp)] at hs
       rcases hsc:CK (x::s.drop (i+1)) with e|⟨k,t⟩
       · rw [hsc] at hs
         have he:=NF hsc
         have hne:(e != 0)=true:=by simp;omega
         (repeat' (first|refine Run.ct rfl ?_|((first|refine Run.reg mixed ?_|refine Run.AJ ?_|(refine Run.A9 CB ho.le ?_)|refine Run.A9 CB (AN.le_refl _) ?_|refine AH.det (JW _ _) ?_|refine AH.det (Te _ _ _ (by omega) hlt) ?_)<;>try simp -implicitDefEqProofs only [BX hlt,DD hx,QL,hb,hc,Ec hx,hsc,eX,oK,hne,ho.BT,AU,go_sem])|fail))
         rw [hs];rfl
       · rw [hsc] at hs
         have hsn:=NG hsc
         rw [hsl] at hsn
         (repeat' (first|refine Run.ct rfl ?_|((first|refine Run.reg mixed ?_|refine Run.AJ ?_|(refine Io.own ho rfl (by simp) (by simp;omega) (by decide) (fun v2 σ2 ho2 hbk=>?_))|refine Run.A9 CB (AN.le_refl _) ?_|refine AH.det (JW _ _) ?_|refine AH.det (Te _ _ _ (by omega) hlt) ?_)<;>try simp -implicitDefEqProofs only [BX hlt,DD hx,QL,hb,hc,Ec hx,hsc,eX,oK,ho.BT,AU,wrap_add (show i+t.length≤9000000000000000000 by omega),go_sem])|(refine ⟨fun h=>?_,fun h=>?_⟩<;>first|(cases h;done)|try simp only [h])|fail))
         refine ih (i+t.length,v2,σ2) ⟨?_,acc++[⟨k,t,i⟩],n,?_,?_,?_,?_⟩ ?_
         · simp only;omega
         · simpa [Tok.enc] using ho2
         · simp only [AA,List.length_singleton];omega
         · simp only;omega
         · rw [hs];simp only;rw [← Ec hx,CH]
         · simp only;omega
   · have hge:i=s.length:=by omega
     rw [hge,Q5,C4] at hs
     (repeat' (first|refine Run.ct rfl ?_|((first|refine Run.reg mixed ?_|refine Run.AJ ?_|(refine Io.own ho rfl (by simp) (by simp;omega) (by decide) (fun v2 σ2 ho2 hbk=>?_))|(refine Run.A9 CB ho2.le ?_)|refine Run.A9 CB (AN.le_refl _) ?_)<;>try simp -implicitDefEqProofs only [F2 hlt,go_sem])|fail))
     simp -implicitDefEqProofs only [ho2.At,ho2.plain,go_sem]
     rw [hs];simp [Hc,Tok.enc]
end Go.Ab
