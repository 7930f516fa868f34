/- Keywords and numbers of the reference. Signs, numbers and prefixes. Prefixes and tokens. One token. Texts split into tokens. Conditions: none. -/
import Derived.Test.YtifplkldbbcldaaGreatDoorXLfP
set_option linter.unusedSimpArgs false
set_option linter.unusedVariables false
set_option maxRecDepth 4000
set_option maxHeartbeats 8000000
open List renaming length_map→AG,drop_length→Qx,take_succ_cons→Ci,take_zero→GY,takeWhile_cons→F5,getElem?_drop→BM,drop_drop→CJ,length_append→AA
open Bool renaming false_or→Ml,eq_iff_iff→Dn,or_false→Mm,or_true→Od,false_eq_true→AW,and_true→BH,true_and→BJ,and_false→D9,false_and→E5
open Nat renaming lt_or_ge→Cm,le_refl→A9
namespace Go.Ab
open Go.Proofs
theorem aO (s:Str) (σ:AM):AP Tryz.prog 72 [.d (.str s)] σ (fun v σ'=>v= .d (.bool (S0 s))∧σ'=σ):=by
 refine dP (by simp) ?_
 rw [Av]
 (repeat (first
   |refine Run.seq ?_
   |refine Run.skip ?_
   |refine Run.block ?_
   |refine Run.blk ?_
   |refine Run.scope ?_
   |refine Run.scp ?_
   |(refine Run.exit rfl ?_)
   |(refine Run.reg mixed ?_;simp -implicitDefEqProofs only [go_sem])
   |(refine Run.AJ ?_;simp -implicitDefEqProofs only [go_sem])))
 refine Run.Ba ?_
 refine Run.Bd ((fun (a0:AV)=>fun (i:Nat)=>put 0 a0 (put 3 (.d (.sl (FP.map B0))) (put 4 (.d (.int .i64 i)) U))) _) (fun _=>E) (fun _=>σ) (fun i=>i≤FP.length∧S0 s=(FP.drop i).any (s==·)) (fun i=>FP.length - i) ?_ 0 ⟨by omega,rfl⟩
 rintro i ⟨hi,hs⟩ ih
 by_cases hlt:i < FP.length
 · obtain ⟨x,hx⟩:=C7 hlt
   have he:=CR (enc:=B0) hx
   rw [Eh hx,List.any_cons] at hs
   (repeat' (first|refine Run.ct rfl ?_|((first|refine Run.reg mixed ?_|refine Run.AJ ?_|refine Run.Ad QA (AM.le_refl _) ?_)<;>try simp -implicitDefEqProofs only [AG,BZ hlt,he,B0,BU (show i+1≤9000000000000000000 by have:FP.length=28:=rfl;omega),go_sem])|(refine ⟨fun h=>?_,fun h=>?_⟩<;>first|(cases h;done)|try simp only [h])|fail))
   · rw [hs];simp_all
   · refine ih (i+1) ⟨hlt,?_⟩ (by omega)
     rw [hs,show (s==x)=(x==s) from BEq.comm,h,Ml]
 · have hge:i=FP.length:=by omega
   (repeat' (first|refine Run.ct rfl ?_|((first|refine Run.reg mixed ?_|refine Run.AJ ?_|refine Run.Ad QA (AM.le_refl _) ?_)<;>try simp -implicitDefEqProofs only [AG,FD hlt,go_sem])|fail))
   rw [hs,hge];rfl
def FI:Str→Int→Option Int
 |[],v=>some v
 |b::r,v=>if v * 10+IntKind.u8.wrap ((b.toNat:Int) - 48)>1000000 then none else FI r (v * 10+IntKind.u8.wrap ((b.toNat:Int) - 48))
theorem AAA (a:Int):0≤IntKind.u8.wrap a∧IntKind.u8.wrap a≤255:=by
 have h1:IntKind.u8.wrap a=a % 256:=by rfl
 rw [h1];omega
theorem iF (s:Str) (σ:AM) (hl:s.length≤1000000000):AP Tryz.prog 73 [.d (.str s)] σ (fun v σ'=>v=(match FI s 0 with|some n=>.tup [.d (.int .i64 n),.d (.bool true)]|none=>.tup [.d (.int .i64 0),.d (.bool false)])∧σ'=σ):=by
 refine kJ (by simp) ?_
 rw [Av]
 (repeat (first
   |refine Run.seq ?_
   |refine Run.skip ?_
   |refine Run.block ?_
   |refine Run.blk ?_
   |refine Run.scope ?_
   |refine Run.scp ?_
   |(refine Run.exit rfl ?_)
   |(refine Run.reg mixed ?_;simp -implicitDefEqProofs only [go_sem])
   |(refine Run.AJ ?_;simp -implicitDefEqProofs only [go_sem])))
 refine Run.Ba ?_
 refine Run.Bd ((fun (a0:AV)=>fun (y:Nat×Int)=>put 0 a0 (put 4 (.d (.int .i64 y.2)) (put 5 (.d (.int .i64 y.1)) U))) _) (fun _=>E) (fun _=>σ) (fun y=>y.1≤s.length∧0≤y.2∧y.2≤1000000∧FI s 0=FI (s.drop y.1) y.2) (fun y=>s.length - y.1) ?_ (0,0) ⟨by simp,by simp,by simp,rfl⟩
 rintro ⟨i,v⟩ ⟨hi,h0,h1,hs⟩ ih
 simp only at hi h0 h1 hs
 by_cases hlt:i < s.length
 · obtain ⟨x,hx⟩:=C7 hlt
   rw [Eh hx,FI] at hs
   have hu:=AAA ((x.toNat:Int) - 48)
   have e1:IntKind.i64.wrap (v * 10)=v * 10:=BF (by omega) (by omega)
   have e2:IntKind.i64.wrap (IntKind.u8.wrap ((x.toNat:Int) - 48))=IntKind.u8.wrap ((x.toNat:Int) - 48):=BF (by omega) (by omega)
   have e3:IntKind.i64.wrap (v * 10+IntKind.u8.wrap ((x.toNat:Int) - 48))=v * 10+IntKind.u8.wrap ((x.toNat:Int) - 48):=BF (by omega) (by omega)
   (repeat' (first|refine Run.ct rfl ?_|((first|refine Run.reg mixed ?_|refine Run.AJ ?_|refine Run.Ad U2 (AM.le_refl _) ?_)<;>try simp -implicitDefEqProofs only [BZ hlt,DH hx,e1,e2,e3,BU (show i+1≤9000000000000000000 by omega),go_sem])|(refine ⟨fun h=>?_,fun h=>?_⟩<;>first|(cases h;done)|try simp only [h])|fail))
   · have:v * 10+IntKind.u8.wrap ((x.toNat:Int) - 48)>1000000:=by simpa using h
     rw [hs,if_pos this]
   · have:¬v * 10+IntKind.u8.wrap ((x.toNat:Int) - 48)>1000000:=by simpa using h
     rw [if_neg this] at hs
     exact ih (i+1,_) ⟨hlt,by simp only;omega,by simp only;omega,hs⟩ (by simp only;omega)
 · have hge:i=s.length:=by omega
   (repeat' (first|refine Run.ct rfl ?_|((first|refine Run.reg mixed ?_|refine Run.AJ ?_|refine Run.Ad U2 (AM.le_refl _) ?_)<;>try simp -implicitDefEqProofs only [FD hlt,go_sem])|fail))
   rw [hs,hge,Qx,FI]
end Go.Ab
namespace Go.Ab
open Go.Proofs
def ZZ:Str:=[40,41,44,61,124,43,45,42,47,37,60,59,95]
def aV (b:UInt8):Nat:=if ZZ.any (b==·) then 1 else 0
def aW (b c:UInt8):Bool:=([b,c]==[45,62])||([b,c]==[60,61])||([b,c]==[61,61])
def GH:Str→Nat
 |[]=>0
 |[b]=>aV b
 |b::c::_=>if aW b c then 2 else aV b
theorem zX:decide ((2:Int)≤((1:Nat):Int))=false:=rfl
theorem zY (n:Nat):decide ((2:Int)≤((n+1+1:Nat):Int))=true:=by simp;omega
theorem AC0 (b c:UInt8):([b]==[c])=(b==c):=by
 rw [Dn];simp
set_option maxHeartbeats 4000000 in
theorem aY (s:Str) (σ:AM) (hs:s≠[]):AP Tryz.prog 119 [.d (.str s)] σ (fun v σ'=>v= .d (.str (s.take (GH s)))∧σ'=σ):=by
 match s,hs with
 |[b],_=>
  refine VS (by simp) ?_
  rw [Av]
  (repeat' (first|refine Run.ct rfl ?_|((first|refine Run.reg mixed ?_|refine Run.AJ ?_|refine Run.Ad QB (AM.le_refl _) ?_)<;>try simp -implicitDefEqProofs only [zX,z7,AC0,go_sem])|(refine ⟨fun h=>?_,fun h=>?_⟩<;>first|(cases h;done)|try simp only [h])|fail))
  all_goals simp only [GH,aV,ZZ,List.any_cons,List.any_nil,Mm,Ml,Bool.true_or,Od,reduceIte,Ci,GY,AW,and_self, *]
 |b::c::r,_=>
  refine VS (by simp) ?_
  rw [Av]
  (repeat' (first|refine Run.ct rfl ?_|((first|refine Run.reg mixed ?_|refine Run.AJ ?_|refine Run.Ad QB (AM.le_refl _) ?_)<;>try simp -implicitDefEqProofs only [zY,z7,z8,AC0,go_sem])|(refine ⟨fun h=>?_,fun h=>?_⟩<;>first|(cases h;done)|try simp only [h])|fail))
  all_goals simp only [GH,aW,aV,ZZ,List.any_cons,List.any_nil,Mm,Ml,Bool.true_or,Od,reduceIte,Ci,GY,AW,and_self, *]
theorem Zg (s:Str) (σ:AM) (hl:s.length≤1000000000):AP Tryz.prog 118 [.d (.str s)] σ (fun v σ'=>v= .d (.bool (FI s 0).isSome)∧σ'=σ):=by
 refine aK (by simp) ?_
 rw [Av]
 (repeat (first
   |refine Run.seq ?_
   |refine Run.skip ?_
   |refine Run.block ?_
   |refine Run.blk ?_
   |refine Run.scope ?_
   |refine Run.scp ?_
   |(refine Run.exit rfl ?_)
   |(refine Run.reg mixed ?_;simp -implicitDefEqProofs only [go_sem])
   |(refine Run.AJ ?_;simp -implicitDefEqProofs only [go_sem])))
 refine Run.Ba ?_
 refine Run.Bd ((fun (a0:AV) (a6:AV)=>fun (y:Nat×Int)=>put 0 a0 (put 3 (.d (.int .i64 y.2)) (put 6 a6 (put 7 (.d (.int .i64 y.1)) U)))) _ _) (fun _=>E) (fun _=>σ) (fun y=>y.1≤s.length∧0≤y.2∧y.2≤1000000∧FI s 0=FI (s.drop y.1) y.2) (fun y=>s.length - y.1) ?_ (0,0) ⟨by simp,by simp,by simp,rfl⟩
 rintro ⟨i,v⟩ ⟨hi,h0,h1,hs⟩ ih
 simp only at hi h0 h1 hs
 by_cases hlt:i < s.length
 · obtain ⟨x,hx⟩:=C7 hlt
   rw [Eh hx,FI] at hs
   have hu:=AAA ((x.toNat:Int) - 48)
   have e1:IntKind.i64.wrap (v * 10)=v * 10:=BF (by omega) (by omega)
   have e2:IntKind.i64.wrap (IntKind.u8.wrap ((x.toNat:Int) - 48))=IntKind.u8.wrap ((x.toNat:Int) - 48):=BF (by omega) (by omega)
   have e3:IntKind.i64.wrap (v * 10+IntKind.u8.wrap ((x.toNat:Int) - 48))=v * 10+IntKind.u8.wrap ((x.toNat:Int) - 48):=BF (by omega) (by omega)
   (repeat' (first|refine Run.ct rfl ?_|((first|refine Run.reg mixed ?_|refine Run.AJ ?_|refine Run.Ad OR (AM.le_refl _) ?_)<;>try simp -implicitDefEqProofs only [BZ hlt,DH hx,e1,e2,e3,BU (show i+1≤9000000000000000000 by omega),go_sem])|(refine ⟨fun h=>?_,fun h=>?_⟩<;>first|(cases h;done)|try simp only [h])|fail))
   · have:v * 10+IntKind.u8.wrap ((x.toNat:Int) - 48)>1000000:=by simpa using h
     rw [hs,if_pos this];rfl
   · have:¬v * 10+IntKind.u8.wrap ((x.toNat:Int) - 48)>1000000:=by simpa using h
     rw [if_neg this] at hs
     exact ih (i+1,_) ⟨hlt,by simp only;omega,by simp only;omega,hs⟩ (by simp only;omega)
 · have hge:i=s.length:=by omega
   (repeat' (first|refine Run.ct rfl ?_|((first|refine Run.reg mixed ?_|refine Run.AJ ?_|refine Run.Ad OR (AM.le_refl _) ?_)<;>try simp -implicitDefEqProofs only [FD hlt,go_sem])|fail))
   rw [hs,hge,Qx,FI];rfl
end Go.Ab
namespace Go.Ab
open Go.Proofs
def CP (c:Int→Bool) (b:UInt8):Bool:=c b.toNat
theorem Eu {c:UInt8→Bool} {s:Str} {i:Nat} (h:∀j b,j < i→s[j]?=some b→c b=true) (hi:i≤s.length) (he:∀b,s[i]?=some b→c b=false):s.takeWhile c=s.take i:=by
 induction i generalizing s with
 |zero=>
  cases s with
  |nil=>rfl
  |cons b r=>simp [he b rfl]
 |succ i ih=>
  cases s with
  |nil=>simp at hi
  |cons b r=>
   have hb:c b=true:=h 0 b (by omega) rfl
   rw [F5,hb,if_pos rfl,Ci,ih (fun j b hj hb=>h (j+1) b (by omega) hb) (by simpa using hi) (fun b hb=>he b hb)]
theorem Qv {fid:FuncId} (hb:Aw Tryz.prog fid=true) (c:Int→Bool) (hc:∀n σ,AP Tryz.prog fid [.d (.int .u8 n)] σ (fun v σ'=>v= .d (.bool (c n))∧σ'=σ)) (s:Str) (σ:AM) (hl:s.length≤1000000000):
 AP Tryz.prog 114 [.d (.str s),.fn fid [] []] σ (fun v σ'=>v= .d (.str (s.takeWhile (CP c)))∧σ'=σ):=by
 refine Ye (by simp) ?_
 rw [BP]
 (repeat (first
   |refine Run.seq ?_
   |refine Run.skip ?_
   |refine Run.block ?_
   |refine Run.blk ?_
   |refine Run.scope ?_
   |refine Run.scp ?_
   |(refine Run.exit rfl ?_)
   |(refine Run.reg mixed ?_;simp -implicitDefEqProofs only [go_sem])
   |(refine Run.AJ ?_;simp -implicitDefEqProofs only [go_sem])))
 refine Run.Ba ?_
 refine Run.Bd ((fun (a0:AV) (a1:AV)=>fun (i:Nat)=>put 0 a0 (put 1 a1 (put 5 (.d (.int .i64 i)) U))) _ _) (fun _=>E) (fun _=>σ) (fun i=>i≤s.length∧∀j b,j < i→s[j]?=some b→CP c b=true) (fun i=>s.length - i) ?_ 0 ⟨by simp,by simp⟩
 rintro i ⟨hi,hs⟩ ih
 by_cases hlt:i < s.length
 · obtain ⟨x,hx⟩:=C7 hlt
   (repeat' (first|refine Run.ct rfl ?_|((first|refine Run.reg mixed ?_|refine Run.AJ ?_|(refine ⟨fid,[],[],rfl,hb,AH.det (hc _ _) ?_⟩)|refine Run.Ad NG (AM.le_refl _) ?_)<;>try simp -implicitDefEqProofs only [BZ hlt,DH hx,eW hi,BU (show i+1≤9000000000000000000 by omega),go_sem])|(refine ⟨fun h=>?_,fun h=>?_⟩<;>first|(cases h;done)|try simp only [h])|fail))
   · refine ih (i+1) ⟨hlt,fun j b hj hb=>?_⟩ (by omega)
     rcases Cm j i with h2|h2
     · exact hs j b h2 hb
     · have:j=i:=by omega
       subst this
       rw [hx] at hb;cases hb;exact h
   · rw [Eu hs hi (fun b hb=>by rw [hx] at hb;cases hb;exact h)]
 · have hge:i=s.length:=by omega
   (repeat' (first|refine Run.ct rfl ?_|((first|refine Run.reg mixed ?_|refine Run.AJ ?_|refine Run.Ad NG (AM.le_refl _) ?_)<;>try simp -implicitDefEqProofs only [FD hlt,eW hi,go_sem])|fail))
   rw [Eu hs hi (fun b hb=>by rw [hge] at hb;simp at hb)]
theorem lU (s:Str) (σ:AM) (hs:s≠[]):AP Tryz.prog 74 [.d (.str s)] σ (fun v σ'=>v= .d (.int .i64 (GH s))∧σ'=σ):=by
 have hloop:∀(b:UInt8) (r:Str),(GH (b::r)=aV b)→Run Mk (fun v σ'=>v= .d (.int .i64 (GH (b::r)))∧σ'=σ) [.again Uz,.blk 0,.code (.seq (.reg [⟨some 2,.mv (.c (.d (.int .i64 0))),none⟩] [2]) .ret)] (put 0 (.d (.str (b::r))) (put 3 (.d (.str ZZ)) (put 4 (.d (.int .i64 0)) U))) E σ:=by
  intro b r hbr
  refine Run.Bd ((fun (a0:AV) (a3:AV)=>fun (i:Nat)=>put 0 a0 (put 3 a3 (put 4 (.d (.int .i64 i)) U))) _ _) (fun _=>E) (fun _=>σ) (fun i=>i≤ZZ.length∧ZZ.any (b==·)=(ZZ.drop i).any (b==·)) (fun i=>ZZ.length - i) ?_ 0 ⟨by simp,rfl⟩
  rintro i ⟨hi,hs⟩ ih
  have hn:ZZ.length=13:=rfl
  have h0:(b::r)[0]?=some b:=rfl
  by_cases hlt:i < ZZ.length
  · obtain ⟨x,hx⟩:=C7 hlt
    rw [Eh hx,List.any_cons] at hs
    have hz:=DH h0 .i64
    rw [show ((0:Nat):Int)=0 from rfl] at hz
    (repeat' (first|refine Run.ct rfl ?_|((first|refine Run.reg mixed ?_|refine Run.AJ ?_|refine Run.Ad Ot (AM.le_refl _) ?_)<;>try simp -implicitDefEqProofs only [BZ hlt,DH hx,hz,y8,BU (show i+1≤9000000000000000000 by omega),go_sem])|(refine ⟨fun h=>?_,fun h=>?_⟩<;>first|(cases h;done)|try simp only [h])|fail))
    · rw [hbr,aV,hs,h];rfl
    · exact ih (i+1) ⟨hlt,by rw [hs,h];rfl⟩ (by omega)
  · have hge:i=ZZ.length:=by omega
    (repeat' (first|refine Run.ct rfl ?_|((first|refine Run.reg mixed ?_|refine Run.AJ ?_|refine Run.Ad Ot (AM.le_refl _) ?_)<;>try simp -implicitDefEqProofs only [FD hlt,go_sem])|fail))
    rw [hbr,aV,hs,hge];rfl
 match s,hs with
 |[b],_=>
  refine bW (by simp) ?_
  rw [Av]
  (repeat' (first|refine Run.ct rfl ?_|((first|refine Run.reg mixed ?_|refine Run.AJ ?_|refine Run.Ad Ot (AM.le_refl _) ?_)<;>try simp -implicitDefEqProofs only [zX,go_sem])|fail))
  exact Run.Ba (hloop b [] rfl)
 |b::c::r,_=>
  refine bW (by simp) ?_
  rw [Av]
  (repeat' (first|refine Run.ct rfl ?_|((first|refine Run.reg mixed ?_|refine Run.AJ ?_|refine Run.Ad Ot (AM.le_refl _) ?_|(refine AQ rfl (fun h=>?_) (fun h=>?_)<;>try (cases h;done)))<;>try simp -implicitDefEqProofs only [zY,z8,go_sem])|(refine ⟨fun h=>?_,fun h=>?_⟩<;>first|(cases h;done)|try simp only [h])|fail))
  all_goals (first|exact Run.Ba (hloop b (c::r) (by simp only [GH,aW, *];rfl))|(simp only [GH,aW, *];rfl))
end Go.Ab
namespace Go.Ab
open Go.Proofs
def Da:Str→Except Int (Int×Str)
 |[]=>.error 2
 |b::r=>
  if M9 b.toNat||K9 b.toNat then
   if decide (((b::r).takeWhile (CP GW)).length>24) then .error 9
                                  else if K9 b.toNat then .ok (2,(b::r).takeWhile (CP GW))
                                  else if S0 ((b::r).takeWhile (CP GW)) then .ok (4,(b::r).takeWhile (CP GW))
                                  else .ok (1,(b::r).takeWhile (CP GW))
                                  else if Em b.toNat then
   if b==48&&decide (((b::r).takeWhile (CP Em)).length>1) then .error 2
                                         else if (FI ((b::r).takeWhile (CP Em)) 0).isSome then .ok (3,(b::r).takeWhile (CP Em))
                                         else .error 9
                                         else if (b::r).take (GH (b::r))==[] then .error 2
                                         else .ok (5,(b::r).take (GH (b::r)))
def rR (k:Int) (t:Str) (p:Int):AV:= .agg [.d (.int .i64 k),.d (.str t),.d (.int .i64 p)]
def iV (p:Int):Except Int (Int×Str)→AV
 | .error e=>.tup [rR 0 [] 0,.d (.int .i64 e)]
 | .ok (k,t)=>.tup [rR k t p,.d (.int .i64 0)]
theorem El {α:Type} (p:α→Bool) (l:List α):(l.takeWhile p).length≤l.length:=(List.takeWhile_prefix p).length_le
theorem wC (b:UInt8):((b.toNat:Int)==48)=(b==48):=y8 b 48
theorem ADA (n:Nat):decide ((24:Int) < (n:Int))=decide (n>24):=decide_eq_decide.2 (by omega)
theorem gt1 (n:Nat):decide ((1:Int) < (n:Int))=decide (n>1):=decide_eq_decide.2 (by omega)
theorem pQ:Aw Tryz.prog 115=true:=by kernel_rfl
theorem tF:Aw Tryz.prog 117=true:=by kernel_rfl
theorem UN (src:Str) (i:Nat) (σ:AM) (hl:src.length≤1000000000) (hi:i < src.length):
 AP Tryz.prog 59 [.d (.str src),.d (.int .i64 i)] σ (fun v σ'=>v=iV i (Da (src.drop i))∧σ'=σ):=by
 obtain ⟨b,hb⟩:=C7 hi
 have hd:=Eh hb
 rw [hd]
 have hld:(src.drop i).length≤1000000000:=by simp;omega
 rw [hd] at hld
 have hw1:=El (CP GW) (b::src.drop (i+1))
 have hw2:=El (CP Em) (b::src.drop (i+1))
 have hs1:Sm (.d (.str src)) (some (.d (.int .i64 (i:Int)))) none=some (.d (.str (b::src.drop (i+1)))):=by rw [vT (by omega),hd]
 refine dQ (by simp) ?_
 rw [BP]
 generalize src.drop (i+1)=r at *
 (repeat' (first|refine Run.ct rfl ?_|((first|refine Run.reg mixed ?_|refine Run.AJ ?_|refine Run.Ad VO (AM.le_refl _) ?_|refine AH.det (Sq _ _) ?_|refine AH.det (Sr _ _) ?_|refine AH.det (N5 _ _) ?_|refine AH.det (W5 _ _) ?_|refine AH.det (Zg _ _ (by omega)) ?_|refine AH.det (aY _ _ (by simp)) ?_|refine AH.det (Qv (c:=GW) pQ X7 _ _ hld) ?_|refine AH.det (Qv (c:=Em) tF N5 _ _ hld) ?_|(refine AQ rfl (fun h=>?_) (fun h=>?_)<;>try (cases h;done)))<;>try simp -implicitDefEqProofs only [DH hb,hs1,wC,ADA,gt1,go_sem])|(refine ⟨fun h=>?_,fun h=>?_⟩<;>first|(cases h;done)|try simp only [h])|fail))
 all_goals (clear hw1 hw2 hs1 hd hld;first|(simp only [Da,iV,rR, *,Od,Bool.true_or,Mm,Ml,BH,BJ,D9,E5,AW,reduceIte];done)|simp_all [Da,iV,rR])
end Go.Ab
namespace Go.Ab
open Go.Proofs
structure Tok where
 kind:Int
 text:Str
 pos:Nat
def Tok.enc (t:Tok):List DV:=[.int .i64 t.kind,.str t.text,.int .i64 t.pos]
def cmt (s:Str):Nat:=(s.takeWhile (fun c=>!(c==10))).length
def D6:Nat→Str→Nat→List Tok→List Tok×Nat×Int
 |0,_,_,_=>([],0,0)
 |n+1,rest,i,acc=>match rest with
  |[]=>(acc++[⟨6,[],i⟩],0,0)
  |b::r=>
   if US b.toNat then D6 n r (i+1) acc
                               else if b==35 then D6 n ((b::r).drop (cmt (b::r))) (i+cmt (b::r)) acc
                               else match Da (b::r) with
    | .error e=>([],i,e)
    | .ok (k,t)=>D6 n ((b::r).drop t.length) (i+t.length) (acc++[⟨k,t,i⟩])
def BL (s:Str):List Tok×Nat×Int:=if s.length>16384 then ([],0,9) else D6 (s.length+1) s 0 []
def Hk (r:List Tok×Nat×Int):AV:= .tup [.d (.sl (r.1.map Tok.enc)),.d (.int .i64 r.2.1),.d (.int .i64 r.2.2)]
theorem Qe (b:UInt8):((b.toNat:Int)==35)=(b==35):=y8 b 35
theorem eZ (b:UInt8):((b.toNat:Int)==10)=(b==10):=y8 b 10
theorem tD (n:Nat):decide ((16384:Int) < (n:Int))=decide (n>16384):=decide_eq_decide.2 (by omega)
theorem P5 {s:Str} {k:Int} {t:Str} (h:Da s= .ok (k,t)):1≤t.length∧t.length≤s.length:=by
 match s with
 |[]=>simp [Da] at h
 |b::r=>
  have h1:=El (CP GW) (b::r)
  have h2:=El (CP Em) (b::r)
  simp only [Da] at h
  split at h
  · rename_i hlu
    have hw:CP GW b=true:=by
     simp only [CP,GW];rw [hlu];rfl
    have h3:1≤((b::r).takeWhile (CP GW)).length:=by simp [hw]
    split at h
    · cases h
    · split at h
      · cases h;exact ⟨h3,h1⟩
      · split at h<;>(cases h;exact ⟨h3,h1⟩)
  · split at h
    · rename_i hdg
      have h3:1≤((b::r).takeWhile (CP Em)).length:=by simp [CP,hdg]
      split at h
      · cases h
      · split at h<;>cases h
        exact ⟨h3,h2⟩
    · split at h
      · cases h
      · rename_i hne
        cases h
        refine ⟨?_,List.length_take_le' _ _⟩
        cases he:(b::r).take (GH (b::r)) with
        |nil=>rw [he] at hne;simp at hne
        |cons=>simp
theorem P4 {s:Str} {e:Int} (h:Da s= .error e):e=2∨e=9:=by
 match s with
 |[]=>simp only [Da,Except.error.injEq] at h;omega
 |b::r=>
  simp only [Da] at h
  repeat' split at h
  all_goals first|(cases h;simp;done)|cases h
theorem Sp (s:Str) (σ:AM):AP Tryz.prog 21 [.d (.str s)] σ (fun v σ'=>v=Hk (BL s)∧σ'=σ):=by
 refine aG (by simp) ?_
 rw [Av]
 (repeat' (first|refine Run.ct rfl ?_|((first|refine Run.reg mixed ?_|refine Run.AJ ?_|refine Run.Ad CB (AM.le_refl _) ?_)<;>try simp -implicitDefEqProofs only [tD,go_sem])|(refine ⟨fun h=>?_,fun h=>?_⟩<;>first|(cases h;done)|try simp only [h])|fail))
 · have:s.length>16384:=by simpa using h
   simp [Hk,BL,this]
 · have hl:¬s.length>16384:=by simpa using h
   refine Run.Ba ?_
   refine Run.Bd ((fun (a0:AV)=>fun (y:Nat×AV×AM)=>put 0 a0 (put 5 (y.2.1) (put 6 (.d (.int .i64 y.1)) U))) _) (fun _=>E) (fun y=>y.2.2) (fun y=>y.1≤s.length∧∃acc n,EW σ 38 3 (acc.map Tok.enc) y.2.1 y.2.2∧acc.length≤y.1∧s.length - y.1 < n∧BL s=D6 n (s.drop y.1) y.1 acc) (fun y=>s.length - y.1) ?_ (0,.AY,σ) ⟨by simp,[],s.length+1,EW.nil _ _ _,by simp,by simp,by simp [BL,hl]⟩
   rintro ⟨i,v,σ1⟩ ⟨hi,acc,n,ho,hac,hn,hs⟩ ih
   simp only at hi ho hac hn hs
   obtain ⟨n,rfl⟩:∃m,n=m+1:=⟨n - 1,by omega⟩
   by_cases hlt:i < s.length
   · obtain ⟨x,hx⟩:=C7 hlt
     rw [Eh hx,D6] at hs
     have hw1:=BU (show i+1≤9000000000000000000 by omega)
     have hsl:(x::s.drop (i+1)).length=s.length - i:=by simp;omega
     cases hb:US x.toNat with
     |true=>
      rw [hb] at hs
      (repeat' (first|refine Run.ct rfl ?_|((first|refine Run.reg mixed ?_|refine Run.AJ ?_|refine Run.Ad CB (AM.le_refl _) ?_|refine AH.det (J5 _ _) ?_)<;>try simp -implicitDefEqProofs only [BZ hlt,DH hx,hb,hw1,go_sem])|fail))
      exact ih (i+1,v,σ1) ⟨hlt,acc,n,ho,by simp only;omega,by simp only;omega,hs⟩ (by simp only;omega)
     |false=>
      rw [hb,if_neg (by simp)] at hs
      cases hc:(x==35) with
      |true=>
       rw [hc,if_pos rfl] at hs
       (repeat' (first|refine Run.ct rfl ?_|((first|refine Run.reg mixed ?_|refine Run.AJ ?_|refine Run.Ad CB (AM.le_refl _) ?_|refine AH.det (J5 _ _) ?_)<;>try simp -implicitDefEqProofs only [BZ hlt,DH hx,Qe,hb,hc,go_sem])|fail))
       refine Run.PN [0,5,6] ?_;simp -implicitDefEqProofs only [go_sem]
       refine Run.Ba ?_
       refine Run.Bd ((fun (a0:AV) (a5:AV)=>fun (j:Nat)=>put 0 a0 (put 5 a5 (put 6 (.d (.int .i64 j)) U))) _ _) (fun _=>E) (fun _=>σ1) (fun j=>i≤j∧j≤s.length∧∀q b,q < j - i→(s.drop i)[q]?=some b→(!(b==10))=true) (fun j=>s.length - j) ?_ i ⟨A9 i,hi,by intro q b hq;omega⟩
       rintro j ⟨hij,hj,hall⟩ ih2
       have hw2:=BU (show j+1≤9000000000000000000 by omega)
       by_cases hjl:j < s.length
       · obtain ⟨z,hz⟩:=C7 hjl
         have hz2:(s.drop i)[j - i]?=some z:=by rw [BM,show i+(j - i)=j by omega];exact hz
         cases h10:(z==10) with
         |true=>
          (repeat' (first|refine Run.ct rfl ?_|((first|refine Run.reg mixed ?_|refine Run.AJ ?_|refine Run.Ad CB (AM.le_refl _) ?_)<;>try simp -implicitDefEqProofs only [BZ hjl,DH hz,eZ,h10,go_sem])|fail))
          have hk:cmt (x::s.drop (i+1))=j - i:=by
           rw [← Eh hx,cmt,Eu hall (by simp;omega) (fun b hb=>by rw [hz2] at hb;cases hb;simp [h10])]
           simp;omega
          have hji:j≠i:=fun e=>by
           subst e
           rw [hx] at hz;cases hz
           simp only [beq_iff_eq] at hc h10
           rw [hc] at h10;exact absurd h10 (by decide)
          rw [hk,← Eh hx,CJ,show i+(j - i)=j by omega] at hs
          refine Run.PN [0,5,6] ?_;simp -implicitDefEqProofs only [go_sem]
          exact ih (j,v,σ1) ⟨hj,acc,n,ho,by simp only;omega,by simp only;omega,hs⟩ (by simp only;omega)
         |false=>
          (repeat' (first|refine Run.ct rfl ?_|((first|refine Run.reg mixed ?_|refine Run.AJ ?_|refine Run.Ad CB (AM.le_refl _) ?_)<;>try simp -implicitDefEqProofs only [BZ hjl,DH hz,eZ,h10,hw2,go_sem])|fail))
          refine ih2 (j+1) ⟨by omega,hjl,fun q b hq hb=>?_⟩ (by omega)
          rcases Cm q (j - i) with h2|h2
          · exact hall q b h2 hb
          · have:q=j - i:=by omega
            subst this
            rw [hz2] at hb;cases hb;simp [h10]
       · have hje:j=s.length:=by omega
         have hk:cmt (x::s.drop (i+1))=j - i:=by
          rw [← Eh hx,cmt,Eu hall (by simp;omega) (fun b hb=>by rw [BM,show i+(j - i)=j by omega,hje] at hb;simp at hb)]
          simp;omega
         rw [hk,← Eh hx,CJ,show i+(j - i)=j by omega,hje,Qx] at hs
         obtain ⟨n,rfl⟩:∃m,n=m+1:=⟨n - 1,by omega⟩
         rw [D6] at hs
         (repeat' (first|refine Run.ct rfl ?_|((first|refine Run.reg mixed ?_|refine Run.AJ ?_|(refine Kf.own ho rfl (by simp) (by simp;omega) (by decide) (fun v2 σ2 ho2 hbk=>?_))|(refine Run.Ad CB ho2.le ?_)|refine Run.Ad CB (AM.le_refl _) ?_)<;>try simp -implicitDefEqProofs only [FD hjl,go_sem])|fail))
         simp -implicitDefEqProofs only [ho2.Ay,ho2.plain,go_sem]
         rw [hs];simp [Hk,Tok.enc]
      |false=>
       rw [hc,if_neg (by simp)] at hs
       rcases hsc:Da (x::s.drop (i+1)) with e|⟨k,t⟩
       · rw [hsc] at hs
         have he:=P4 hsc
         have hne:(e != 0)=true:=by simp;omega
         (repeat' (first|refine Run.ct rfl ?_|((first|refine Run.reg mixed ?_|refine Run.AJ ?_|(refine Run.Ad CB ho.le ?_)|refine Run.Ad CB (AM.le_refl _) ?_|refine AH.det (J5 _ _) ?_|refine AH.det (UN _ _ _ (by omega) hlt) ?_)<;>try simp -implicitDefEqProofs only [BZ hlt,DH hx,Qe,hb,hc,Eh hx,hsc,iV,rR,hne,ho.BR,AW,go_sem])|fail))
         rw [hs];rfl
       · rw [hsc] at hs
         have hsn:=P5 hsc
         rw [hsl] at hsn
         (repeat' (first|refine Run.ct rfl ?_|((first|refine Run.reg mixed ?_|refine Run.AJ ?_|(refine Kf.own ho rfl (by simp) (by simp;omega) (by decide) (fun v2 σ2 ho2 hbk=>?_))|refine Run.Ad CB (AM.le_refl _) ?_|refine AH.det (J5 _ _) ?_|refine AH.det (UN _ _ _ (by omega) hlt) ?_)<;>try simp -implicitDefEqProofs only [BZ hlt,DH hx,Qe,hb,hc,Eh hx,hsc,iV,rR,ho.BR,AW,wrap_add (show i+t.length≤9000000000000000000 by omega),go_sem])|(refine ⟨fun h=>?_,fun h=>?_⟩<;>first|(cases h;done)|try simp only [h])|fail))
         refine ih (i+t.length,v2,σ2) ⟨?_,acc++[⟨k,t,i⟩],n,?_,?_,?_,?_⟩ ?_
         · simp only;omega
         · simpa [Tok.enc] using ho2
         · simp only [AA,List.length_singleton];omega
         · simp only;omega
         · rw [hs];simp only;rw [← Eh hx,CJ]
         · simp only;omega
   · have hge:i=s.length:=by omega
     rw [hge,Qx,D6] at hs
     (repeat' (first|refine Run.ct rfl ?_|((first|refine Run.reg mixed ?_|refine Run.AJ ?_|(refine Kf.own ho rfl (by simp) (by simp;omega) (by decide) (fun v2 σ2 ho2 hbk=>?_))|(refine Run.Ad CB ho2.le ?_)|refine Run.Ad CB (AM.le_refl _) ?_)<;>try simp -implicitDefEqProofs only [FD hlt,go_sem])|fail))
     simp -implicitDefEqProofs only [ho2.Ay,ho2.plain,go_sem]
     rw [hs];simp [Hk,Tok.enc]
end Go.Ab
