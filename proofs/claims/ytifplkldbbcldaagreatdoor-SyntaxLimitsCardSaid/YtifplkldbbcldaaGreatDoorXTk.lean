/- Bytes and keywords. Keywords and numbers of the reference. Signs, numbers and prefixes. Prefixes and tokens. One token. Texts split into tokens. Conditions: none. -/
import Derived.Test.YtifplkldbbcldaaGreatDoorXLfP
set_option linter.unusedSimpArgs false
set_option linter.unusedVariables false
set_option maxRecDepth 4000
set_option maxHeartbeats 8000000
open Bool renaming or_false→MZ,false_or→MY,or_true→OJ,eq_iff_iff→Dd,false_eq_true→AU,and_true→BA,true_and→BE,and_false→DZ,false_and→EU
open List renaming length_map→AE,drop_length→QX,take_succ_cons→TB,take_zero→KU,takeWhile_cons→FT,getElem?_drop→BH,drop_drop→CA,length_append→AA
open Nat renaming lt_or_ge→Cc,le_refl→A7
namespace Go.Ab
open Go.Proofs
def MM (n:Int):Bool:=decide (97≤n)&&decide (n≤122)
def KM (n:Int):Bool:=decide (65≤n)&&decide (n≤90)
def Ec (n:Int):Bool:=decide (48≤n)&&decide (n≤57)
def GC (n:Int):Bool:=MM n||KM n||Ec n||(n==95)
def T9 (n:Int):Bool:=(n==9)||(n==10)||(n==13)||(n==32)
theorem SM (n:Int) (σ:AN):AQ Tryz.prog 112 [.d (.int .u8 n)] σ (fun v σ'=>v= .d (.bool (MM n))∧σ'=σ):=by
 refine Yy (by simp) ?_
 rw [BB]
 (repeat' (first|refine Run.ct rfl ?_|((first|refine Run.reg mixed ?_|refine Run.AL ?_|refine Run.Ad TV (AN.le_refl _) ?_|(refine AR rfl (fun h=>?_) (fun h=>?_)<;>try (cases h;done)))<;>try simp -implicitDefEqProofs only [go_sem])|fail))
 all_goals (simp_all [MM];try omega)
theorem SN (n:Int) (σ:AN):AQ Tryz.prog 113 [.d (.int .u8 n)] σ (fun v σ'=>v= .d (.bool (KM n))∧σ'=σ):=by
 refine ZA (by simp) ?_
 rw [BB]
 (repeat' (first|refine Run.ct rfl ?_|((first|refine Run.reg mixed ?_|refine Run.AL ?_|refine Run.Ad TW (AN.le_refl _) ?_|(refine AR rfl (fun h=>?_) (fun h=>?_)<;>try (cases h;done)))<;>try simp -implicitDefEqProofs only [go_sem])|fail))
 all_goals (simp_all [KM];try omega)
theorem NH (n:Int) (σ:AN):AQ Tryz.prog 117 [.d (.int .u8 n)] σ (fun v σ'=>v= .d (.bool (Ec n))∧σ'=σ):=by
 refine Yx (by simp) ?_
 rw [BB]
 (repeat' (first|refine Run.ct rfl ?_|((first|refine Run.reg mixed ?_|refine Run.AL ?_|refine Run.Ad TU (AN.le_refl _) ?_|(refine AR rfl (fun h=>?_) (fun h=>?_)<;>try (cases h;done)))<;>try simp -implicitDefEqProofs only [go_sem])|fail))
 all_goals (simp_all [Ec];try omega)
theorem IZ (n:Int) (σ:AN):AQ Tryz.prog 69 [.d (.int .u8 n)] σ (fun v σ'=>v= .d (.bool (MM n))∧σ'=σ):=by
 refine gO (by simp) ?_
 rw [BB]
 (repeat' (first|refine Run.ct rfl ?_|((first|refine Run.reg mixed ?_|refine Run.AL ?_|refine Run.Ad X4 (AN.le_refl _) ?_|(refine AR rfl (fun h=>?_) (fun h=>?_)<;>try (cases h;done)))<;>try simp -implicitDefEqProofs only [go_sem])|fail))
 all_goals (simp_all [MM];try omega)
theorem I0 (n:Int) (σ:AN):AQ Tryz.prog 70 [.d (.int .u8 n)] σ (fun v σ'=>v= .d (.bool (KM n))∧σ'=σ):=by
 refine gP (by simp) ?_
 rw [BB]
 (repeat' (first|refine Run.ct rfl ?_|((first|refine Run.reg mixed ?_|refine Run.AL ?_|refine Run.Ad X5 (AN.le_refl _) ?_|(refine AR rfl (fun h=>?_) (fun h=>?_)<;>try (cases h;done)))<;>try simp -implicitDefEqProofs only [go_sem])|fail))
 all_goals (simp_all [KM];try omega)
theorem HD (n:Int) (σ:AN):AQ Tryz.prog 71 [.d (.int .u8 n)] σ (fun v σ'=>v= .d (.bool (Ec n))∧σ'=σ):=by
 refine gN (by simp) ?_
 rw [BB]
 (repeat' (first|refine Run.ct rfl ?_|((first|refine Run.reg mixed ?_|refine Run.AL ?_|refine Run.Ad X3 (AN.le_refl _) ?_|(refine AR rfl (fun h=>?_) (fun h=>?_)<;>try (cases h;done)))<;>try simp -implicitDefEqProofs only [go_sem])|fail))
 all_goals (simp_all [Ec];try omega)
theorem JP (n:Int) (σ:AN):AQ Tryz.prog 58 [.d (.int .u8 n)] σ (fun v σ'=>v= .d (.bool (T9 n))∧σ'=σ):=by
 refine Yw (by simp) ?_
 rw [BB]
 (repeat' (first|refine Run.ct rfl ?_|((first|refine Run.reg mixed ?_|refine Run.AL ?_|refine Run.Ad TT (AN.le_refl _) ?_|(refine AR rfl (fun h=>?_) (fun h=>?_)<;>try (cases h;done)))<;>try simp -implicitDefEqProofs only [go_sem])|fail))
 all_goals simp_all [T9]
theorem W9 (n:Int) (σ:AN):AQ Tryz.prog 115 [.d (.int .u8 n)] σ (fun v σ'=>v= .d (.bool (GC n))∧σ'=σ):=by
 refine Xf (by simp) ?_
 rw [BB]
 (repeat' (first|refine Run.ct rfl ?_|((first|refine Run.reg mixed ?_|refine Run.AL ?_|refine Run.Ad RZ (AN.le_refl _) ?_|refine AH.det (SM _ _) ?_|refine AH.det (SN _ _) ?_|refine AH.det (NH _ _) ?_|(refine AR rfl (fun h=>?_) (fun h=>?_)<;>try (cases h;done)))<;>try simp -implicitDefEqProofs only [go_sem])|fail))
 all_goals simp_all [GC]
def FB:List Str:=[[97,114,114,97,121],[98,111,111,108],[99,97,116,99,104],[100,97,116,97],[101,108,115,101],[101,110,100],[102,97,108,115,101],[102,110],[102,117,110],[103,101,116],[105,102],[105,110],[105,110,116],[108,101,110],[108,101,116],[109,97,116,99,104],[110,101,119],[114,97,105,115,101],[114,101,97,100],[114,101,102],[115,101,116],[116,104,101,110],[116,105,99,107],[116,114,117,101],[116,114,121],[117,110,105,116],[119,105,116,104],[119,114,105,116,101]]
def Ro (s:Str):Bool:=FB.any (s==·)
set_option maxHeartbeats 4000000 in
theorem Vc (s:Str) (σ:AN):AQ Tryz.prog 116 [.d (.str s)] σ (fun v σ'=>v= .d (.bool (Ro s))∧σ'=σ):=by
 refine WQ (by simp) ?_
 rw [BB]
 (repeat' (first|refine Run.ct rfl ?_|((first|refine Run.reg mixed ?_|refine Run.AL ?_|refine Run.Ad QR (AN.le_refl _) ?_)<;>try simp -implicitDefEqProofs only [go_sem])|(refine ⟨fun h=>?_,fun h=>?_⟩<;>first|(cases h;done)|try simp only [h])|fail))
 all_goals simp only [Ro,FB,List.any_cons,List.any_nil,MZ,MY,Bool.true_or,OJ,and_self, *]
end Go.Ab
namespace Go.Ab
open Go.Proofs
theorem ZD (s:Str) (σ:AN):AQ Tryz.prog 72 [.d (.str s)] σ (fun v σ'=>v= .d (.bool (Ro s))∧σ'=σ):=by
 refine aL (by simp) ?_
 rw [BB]
 (repeat (first
   |refine Run.seq ?_
   |refine Run.skip ?_
   |refine Run.block ?_
   |refine Run.blk ?_
   |refine Run.scope ?_
   |refine Run.scp ?_
   |(refine Run.exit rfl ?_)
   |(refine Run.reg mixed ?_;simp -implicitDefEqProofs only [go_sem])
   |(refine Run.AL ?_;simp -implicitDefEqProofs only [go_sem])))
 refine Run.Bb ?_
 refine Run.Bh ((fun (a0:AV)=>fun (i:Nat)=>put 0 a0 (put 3 (.d (.sl (FB.map Dr))) (put 4 (.d (.int .i64 i)) U))) _) (fun _=>E) (fun _=>σ) (fun i=>i≤FB.length∧Ro s=(FB.drop i).any (s==·)) (fun i=>FB.length - i) ?_ 0 ⟨by omega,rfl⟩
 rintro i ⟨hi,hs⟩ ih
 by_cases hlt:i < FB.length
 · obtain ⟨x,hx⟩:=Cd hlt
   have he:=C5 (enc:=Dr) hx
   rw [E5 hx,List.any_cons] at hs
   (repeat' (first|refine Run.ct rfl ?_|((first|refine Run.reg mixed ?_|refine Run.AL ?_|refine Run.Ad P2 (AN.le_refl _) ?_)<;>try simp -implicitDefEqProofs only [AE,BU hlt,he,Dr,BN (show i+1≤9000000000000000000 by have:FB.length=28:=rfl;omega),go_sem])|(refine ⟨fun h=>?_,fun h=>?_⟩<;>first|(cases h;done)|try simp only [h])|fail))
   · rw [hs];simp_all
   · refine ih (i+1) ⟨hlt,?_⟩ (by omega)
     rw [hs,show (s==x)=(x==s) from BEq.comm,h,MY]
 · have hge:i=FB.length:=by omega
   (repeat' (first|refine Run.ct rfl ?_|((first|refine Run.reg mixed ?_|refine Run.AL ?_|refine Run.Ad P2 (AN.le_refl _) ?_)<;>try simp -implicitDefEqProofs only [AE,FR hlt,go_sem])|fail))
   rw [hs,hge];rfl
def Es:Str→Int→Option Int
 |[],v=>some v
 |b::r,v=>if v * 10+IntKind.u8.wrap ((b.toNat:Int) - 48)>1000000 then none else Es r (v * 10+IntKind.u8.wrap ((b.toNat:Int) - 48))
theorem wL (a:Int):0≤IntKind.u8.wrap a∧IntKind.u8.wrap a≤255:=by
 have h1:IntKind.u8.wrap a=a % 256:=by rfl
 rw [h1];omega
theorem eC (s:Str) (σ:AN) (hl:s.length≤1000000000):AQ Tryz.prog 73 [.d (.str s)] σ (fun v σ'=>v=(match Es s 0 with|some n=>.tup [.d (.int .i64 n),.d (.bool true)]|none=>.tup [.d (.int .i64 0),.d (.bool false)])∧σ'=σ):=by
 refine gM (by simp) ?_
 rw [BB]
 (repeat (first
   |refine Run.seq ?_
   |refine Run.skip ?_
   |refine Run.block ?_
   |refine Run.blk ?_
   |refine Run.scope ?_
   |refine Run.scp ?_
   |(refine Run.exit rfl ?_)
   |(refine Run.reg mixed ?_;simp -implicitDefEqProofs only [go_sem])
   |(refine Run.AL ?_;simp -implicitDefEqProofs only [go_sem])))
 refine Run.Bb ?_
 refine Run.Bh ((fun (a0:AV)=>fun (y:Nat×Int)=>put 0 a0 (put 4 (.d (.int .i64 y.2)) (put 5 (.d (.int .i64 y.1)) U))) _) (fun _=>E) (fun _=>σ) (fun y=>y.1≤s.length∧0≤y.2∧y.2≤1000000∧Es s 0=Es (s.drop y.1) y.2) (fun y=>s.length - y.1) ?_ (0,0) ⟨by simp,by simp,by simp,rfl⟩
 rintro ⟨i,v⟩ ⟨hi,h0,h1,hs⟩ ih
 simp only at hi h0 h1 hs
 by_cases hlt:i < s.length
 · obtain ⟨x,hx⟩:=Cd hlt
   rw [E5 hx,Es] at hs
   have hu:=wL ((x.toNat:Int) - 48)
   have e1:IntKind.i64.wrap (v * 10)=v * 10:=BO (by omega) (by omega)
   have e2:IntKind.i64.wrap (IntKind.u8.wrap ((x.toNat:Int) - 48))=IntKind.u8.wrap ((x.toNat:Int) - 48):=BO (by omega) (by omega)
   have e3:IntKind.i64.wrap (v * 10+IntKind.u8.wrap ((x.toNat:Int) - 48))=v * 10+IntKind.u8.wrap ((x.toNat:Int) - 48):=BO (by omega) (by omega)
   (repeat' (first|refine Run.ct rfl ?_|((first|refine Run.reg mixed ?_|refine Run.AL ?_|refine Run.Ad Ti (AN.le_refl _) ?_)<;>try simp -implicitDefEqProofs only [BU hlt,Cv hx,e1,e2,e3,BN (show i+1≤9000000000000000000 by omega),go_sem])|(refine ⟨fun h=>?_,fun h=>?_⟩<;>first|(cases h;done)|try simp only [h])|fail))
   · have:v * 10+IntKind.u8.wrap ((x.toNat:Int) - 48)>1000000:=by simpa using h
     rw [hs,if_pos this]
   · have:¬v * 10+IntKind.u8.wrap ((x.toNat:Int) - 48)>1000000:=by simpa using h
     rw [if_neg this] at hs
     exact ih (i+1,_) ⟨hlt,by simp only;omega,by simp only;omega,hs⟩ (by simp only;omega)
 · have hge:i=s.length:=by omega
   (repeat' (first|refine Run.ct rfl ?_|((first|refine Run.reg mixed ?_|refine Run.AL ?_|refine Run.Ad Ti (AN.le_refl _) ?_)<;>try simp -implicitDefEqProofs only [FR hlt,go_sem])|fail))
   rw [hs,hge,QX,Es]
end Go.Ab
namespace Go.Ab
open Go.Proofs
def YS:Str:=[40,41,44,61,124,43,45,42,47,37,60,59,95]
def ZJ (b:UInt8):Nat:=if YS.any (b==·) then 1 else 0
def ZK (b c:UInt8):Bool:=([b,c]==[45,62])||([b,c]==[60,61])||([b,c]==[61,61])
def Fp:Str→Nat
 |[]=>0
 |[b]=>ZJ b
 |b::c::_=>if ZK b c then 2 else ZJ b
theorem wE:decide ((2:Int)≤((1:Nat):Int))=false:=rfl
theorem wF (n:Nat):decide ((2:Int)≤((n+1+1:Nat):Int))=true:=by simp;omega
theorem zS (b c:UInt8):([b]==[c])=(b==c):=by
 rw [Dd];simp
set_option maxHeartbeats 4000000 in
theorem ZL (s:Str) (σ:AN) (hs:s≠[]):AQ Tryz.prog 119 [.d (.str s)] σ (fun v σ'=>v= .d (.str (s.take (Fp s)))∧σ'=σ):=by
 match s,hs with
 |[b],_=>
  refine U7 (by simp) ?_
  rw [BB]
  (repeat' (first|refine Run.ct rfl ?_|((first|refine Run.reg mixed ?_|refine Run.AL ?_|refine Run.Ad P3 (AN.le_refl _) ?_)<;>try simp -implicitDefEqProofs only [wE,wJ,zS,go_sem])|(refine ⟨fun h=>?_,fun h=>?_⟩<;>first|(cases h;done)|try simp only [h])|fail))
  all_goals simp only [Fp,ZJ,YS,List.any_cons,List.any_nil,MZ,MY,Bool.true_or,OJ,reduceIte,TB,KU,AU,and_self, *]
 |b::c::r,_=>
  refine U7 (by simp) ?_
  rw [BB]
  (repeat' (first|refine Run.ct rfl ?_|((first|refine Run.reg mixed ?_|refine Run.AL ?_|refine Run.Ad P3 (AN.le_refl _) ?_)<;>try simp -implicitDefEqProofs only [wF,wJ,wK,zS,go_sem])|(refine ⟨fun h=>?_,fun h=>?_⟩<;>first|(cases h;done)|try simp only [h])|fail))
  all_goals simp only [Fp,ZK,ZJ,YS,List.any_cons,List.any_nil,MZ,MY,Bool.true_or,OJ,reduceIte,TB,KU,AU,and_self, *]
theorem Y9 (s:Str) (σ:AN) (hl:s.length≤1000000000):AQ Tryz.prog 118 [.d (.str s)] σ (fun v σ'=>v= .d (.bool (Es s 0).isSome)∧σ'=σ):=by
 refine Yz (by simp) ?_
 rw [BB]
 (repeat (first
   |refine Run.seq ?_
   |refine Run.skip ?_
   |refine Run.block ?_
   |refine Run.blk ?_
   |refine Run.scope ?_
   |refine Run.scp ?_
   |(refine Run.exit rfl ?_)
   |(refine Run.reg mixed ?_;simp -implicitDefEqProofs only [go_sem])
   |(refine Run.AL ?_;simp -implicitDefEqProofs only [go_sem])))
 refine Run.Bb ?_
 refine Run.Bh ((fun (a0:AV) (a6:AV)=>fun (y:Nat×Int)=>put 0 a0 (put 3 (.d (.int .i64 y.2)) (put 6 a6 (put 7 (.d (.int .i64 y.1)) U)))) _ _) (fun _=>E) (fun _=>σ) (fun y=>y.1≤s.length∧0≤y.2∧y.2≤1000000∧Es s 0=Es (s.drop y.1) y.2) (fun y=>s.length - y.1) ?_ (0,0) ⟨by simp,by simp,by simp,rfl⟩
 rintro ⟨i,v⟩ ⟨hi,h0,h1,hs⟩ ih
 simp only at hi h0 h1 hs
 by_cases hlt:i < s.length
 · obtain ⟨x,hx⟩:=Cd hlt
   rw [E5 hx,Es] at hs
   have hu:=wL ((x.toNat:Int) - 48)
   have e1:IntKind.i64.wrap (v * 10)=v * 10:=BO (by omega) (by omega)
   have e2:IntKind.i64.wrap (IntKind.u8.wrap ((x.toNat:Int) - 48))=IntKind.u8.wrap ((x.toNat:Int) - 48):=BO (by omega) (by omega)
   have e3:IntKind.i64.wrap (v * 10+IntKind.u8.wrap ((x.toNat:Int) - 48))=v * 10+IntKind.u8.wrap ((x.toNat:Int) - 48):=BO (by omega) (by omega)
   (repeat' (first|refine Run.ct rfl ?_|((first|refine Run.reg mixed ?_|refine Run.AL ?_|refine Run.Ad Np (AN.le_refl _) ?_)<;>try simp -implicitDefEqProofs only [BU hlt,Cv hx,e1,e2,e3,BN (show i+1≤9000000000000000000 by omega),go_sem])|(refine ⟨fun h=>?_,fun h=>?_⟩<;>first|(cases h;done)|try simp only [h])|fail))
   · have:v * 10+IntKind.u8.wrap ((x.toNat:Int) - 48)>1000000:=by simpa using h
     rw [hs,if_pos this];rfl
   · have:¬v * 10+IntKind.u8.wrap ((x.toNat:Int) - 48)>1000000:=by simpa using h
     rw [if_neg this] at hs
     exact ih (i+1,_) ⟨hlt,by simp only;omega,by simp only;omega,hs⟩ (by simp only;omega)
 · have hge:i=s.length:=by omega
   (repeat' (first|refine Run.ct rfl ?_|((first|refine Run.reg mixed ?_|refine Run.AL ?_|refine Run.Ad Np (AN.le_refl _) ?_)<;>try simp -implicitDefEqProofs only [FR hlt,go_sem])|fail))
   rw [hs,hge,QX,Es];rfl
end Go.Ab
namespace Go.Ab
open Go.Proofs
def CH (c:Int→Bool) (b:UInt8):Bool:=c b.toNat
theorem Ei {c:UInt8→Bool} {s:Str} {i:Nat} (h:∀j b,j < i→s[j]?=some b→c b=true) (hi:i≤s.length) (he:∀b,s[i]?=some b→c b=false):s.takeWhile c=s.take i:=by
 induction i generalizing s with
 |zero=>
  cases s with
  |nil=>rfl
  |cons b r=>simp [he b rfl]
 |succ i ih=>
  cases s with
  |nil=>simp at hi
  |cons b r=>
   have hb:c b=true:=h 0 b (by omega) rfl
   rw [FT,hb,if_pos rfl,TB,ih (fun j b hj hb=>h (j+1) b (by omega) hb) (by simpa using hi) (fun b hb=>he b hb)]
theorem QV {fid:FuncId} (hb:Ap Tryz.prog fid=true) (c:Int→Bool) (hc:∀n σ,AQ Tryz.prog fid [.d (.int .u8 n)] σ (fun v σ'=>v= .d (.bool (c n))∧σ'=σ)) (s:Str) (σ:AN) (hl:s.length≤1000000000):
 AQ Tryz.prog 114 [.d (.str s),.fn fid [] []] σ (fun v σ'=>v= .d (.str (s.takeWhile (CH c)))∧σ'=σ):=by
 refine Xe (by simp) ?_
 rw [BK]
 (repeat (first
   |refine Run.seq ?_
   |refine Run.skip ?_
   |refine Run.block ?_
   |refine Run.blk ?_
   |refine Run.scope ?_
   |refine Run.scp ?_
   |(refine Run.exit rfl ?_)
   |(refine Run.reg mixed ?_;simp -implicitDefEqProofs only [go_sem])
   |(refine Run.AL ?_;simp -implicitDefEqProofs only [go_sem])))
 refine Run.Bb ?_
 refine Run.Bh ((fun (a0:AV) (a1:AV)=>fun (i:Nat)=>put 0 a0 (put 1 a1 (put 5 (.d (.int .i64 i)) U))) _ _) (fun _=>E) (fun _=>σ) (fun i=>i≤s.length∧∀j b,j < i→s[j]?=some b→CH c b=true) (fun i=>s.length - i) ?_ 0 ⟨by simp,by simp⟩
 rintro i ⟨hi,hs⟩ ih
 by_cases hlt:i < s.length
 · obtain ⟨x,hx⟩:=Cd hlt
   (repeat' (first|refine Run.ct rfl ?_|((first|refine Run.reg mixed ?_|refine Run.AL ?_|(refine ⟨fid,[],[],rfl,hb,AH.det (hc _ _) ?_⟩)|refine Run.Ad Mk (AN.le_refl _) ?_)<;>try simp -implicitDefEqProofs only [BU hlt,Cv hx,bS hi,BN (show i+1≤9000000000000000000 by omega),go_sem])|(refine ⟨fun h=>?_,fun h=>?_⟩<;>first|(cases h;done)|try simp only [h])|fail))
   · refine ih (i+1) ⟨hlt,fun j b hj hb=>?_⟩ (by omega)
     rcases Cc j i with h2|h2
     · exact hs j b h2 hb
     · have:j=i:=by omega
       subst this
       rw [hx] at hb;cases hb;exact h
   · rw [Ei hs hi (fun b hb=>by rw [hx] at hb;cases hb;exact h)]
 · have hge:i=s.length:=by omega
   (repeat' (first|refine Run.ct rfl ?_|((first|refine Run.reg mixed ?_|refine Run.AL ?_|refine Run.Ad Mk (AN.le_refl _) ?_)<;>try simp -implicitDefEqProofs only [FR hlt,bS hi,go_sem])|fail))
   rw [Ei hs hi (fun b hb=>by rw [hge] at hb;simp at hb)]
theorem iM (s:Str) (σ:AN) (hs:s≠[]):AQ Tryz.prog 74 [.d (.str s)] σ (fun v σ'=>v= .d (.int .i64 (Fp s))∧σ'=σ):=by
 have hloop:∀(b:UInt8) (r:Str),(Fp (b::r)=ZJ b)→Run MX (fun v σ'=>v= .d (.int .i64 (Fp (b::r)))∧σ'=σ) [.again UP,.blk 0,.code (.seq (.reg [⟨some 2,.mv (.c (.d (.int .i64 0))),none⟩] [2]) .ret)] (put 0 (.d (.str (b::r))) (put 3 (.d (.str YS)) (put 4 (.d (.int .i64 0)) U))) E σ:=by
  intro b r hbr
  refine Run.Bh ((fun (a0:AV) (a3:AV)=>fun (i:Nat)=>put 0 a0 (put 3 a3 (put 4 (.d (.int .i64 i)) U))) _ _) (fun _=>E) (fun _=>σ) (fun i=>i≤YS.length∧YS.any (b==·)=(YS.drop i).any (b==·)) (fun i=>YS.length - i) ?_ 0 ⟨by simp,rfl⟩
  rintro i ⟨hi,hs⟩ ih
  have hn:YS.length=13:=rfl
  have h0:(b::r)[0]?=some b:=rfl
  by_cases hlt:i < YS.length
  · obtain ⟨x,hx⟩:=Cd hlt
    rw [E5 hx,List.any_cons] at hs
    have hz:=Cv h0 .i64
    rw [show ((0:Nat):Int)=0 from rfl] at hz
    (repeat' (first|refine Run.ct rfl ?_|((first|refine Run.reg mixed ?_|refine Run.AL ?_|refine Run.Ad OW (AN.le_refl _) ?_)<;>try simp -implicitDefEqProofs only [BU hlt,Cv hx,hz,vH,BN (show i+1≤9000000000000000000 by omega),go_sem])|(refine ⟨fun h=>?_,fun h=>?_⟩<;>first|(cases h;done)|try simp only [h])|fail))
    · rw [hbr,ZJ,hs,h];rfl
    · exact ih (i+1) ⟨hlt,by rw [hs,h];rfl⟩ (by omega)
  · have hge:i=YS.length:=by omega
    (repeat' (first|refine Run.ct rfl ?_|((first|refine Run.reg mixed ?_|refine Run.AL ?_|refine Run.Ad OW (AN.le_refl _) ?_)<;>try simp -implicitDefEqProofs only [FR hlt,go_sem])|fail))
    rw [hbr,ZJ,hs,hge];rfl
 match s,hs with
 |[b],_=>
  refine Z4 (by simp) ?_
  rw [BB]
  (repeat' (first|refine Run.ct rfl ?_|((first|refine Run.reg mixed ?_|refine Run.AL ?_|refine Run.Ad OW (AN.le_refl _) ?_)<;>try simp -implicitDefEqProofs only [wE,go_sem])|fail))
  exact Run.Bb (hloop b [] rfl)
 |b::c::r,_=>
  refine Z4 (by simp) ?_
  rw [BB]
  (repeat' (first|refine Run.ct rfl ?_|((first|refine Run.reg mixed ?_|refine Run.AL ?_|refine Run.Ad OW (AN.le_refl _) ?_|(refine AR rfl (fun h=>?_) (fun h=>?_)<;>try (cases h;done)))<;>try simp -implicitDefEqProofs only [wF,wK,go_sem])|(refine ⟨fun h=>?_,fun h=>?_⟩<;>first|(cases h;done)|try simp only [h])|fail))
  all_goals (first|exact Run.Bb (hloop b (c::r) (by simp only [Fp,ZK, *];rfl))|(simp only [Fp,ZK, *];rfl))
end Go.Ab
namespace Go.Ab
open Go.Proofs
def D0:Str→Except Int (Int×Str)
 |[]=>.error 2
 |b::r=>
  if MM b.toNat||KM b.toNat then
   if decide (((b::r).takeWhile (CH GC)).length>24) then .error 9
                                  else if KM b.toNat then .ok (2,(b::r).takeWhile (CH GC))
                                  else if Ro ((b::r).takeWhile (CH GC)) then .ok (4,(b::r).takeWhile (CH GC))
                                  else .ok (1,(b::r).takeWhile (CH GC))
                                  else if Ec b.toNat then
   if b==48&&decide (((b::r).takeWhile (CH Ec)).length>1) then .error 2
                                         else if (Es ((b::r).takeWhile (CH Ec)) 0).isSome then .ok (3,(b::r).takeWhile (CH Ec))
                                         else .error 9
                                         else if (b::r).take (Fp (b::r))==[] then .error 2
                                         else .ok (5,(b::r).take (Fp (b::r)))
def nW (k:Int) (t:Str) (p:Int):AV:= .agg [.d (.int .i64 k),.d (.str t),.d (.int .i64 p)]
def eM (p:Int):Except Int (Int×Str)→AV
 | .error e=>.tup [nW 0 [] 0,.d (.int .i64 e)]
 | .ok (k,t)=>.tup [nW k t p,.d (.int .i64 0)]
theorem Eb {α:Type} (p:α→Bool) (l:List α):(l.takeWhile p).length≤l.length:=(List.takeWhile_prefix p).length_le
theorem r4 (b:UInt8):((b.toNat:Int)==48)=(b==48):=vH b 48
theorem z7 (n:Nat):decide ((24:Int) < (n:Int))=decide (n>24):=decide_eq_decide.2 (by omega)
theorem gt1 (n:Nat):decide ((1:Int) < (n:Int))=decide (n>1):=decide_eq_decide.2 (by omega)
theorem lU:Ap Tryz.prog 115=true:=by kernel_rfl
theorem pJ:Ap Tryz.prog 117=true:=by kernel_rfl
theorem T4 (src:Str) (i:Nat) (σ:AN) (hl:src.length≤1000000000) (hi:i < src.length):
 AQ Tryz.prog 59 [.d (.str src),.d (.int .i64 i)] σ (fun v σ'=>v=eM i (D0 (src.drop i))∧σ'=σ):=by
 obtain ⟨b,hb⟩:=Cd hi
 have hd:=E5 hb
 rw [hd]
 have hld:(src.drop i).length≤1000000000:=by simp;omega
 rw [hd] at hld
 have hw1:=Eb (CH GC) (b::src.drop (i+1))
 have hw2:=Eb (CH Ec) (b::src.drop (i+1))
 have hs1:SI (.d (.str src)) (some (.d (.int .i64 (i:Int)))) none=some (.d (.str (b::src.drop (i+1)))):=by rw [rT (by omega),hd]
 refine aM (by simp) ?_
 rw [BK]
 generalize src.drop (i+1)=r at *
 (repeat' (first|refine Run.ct rfl ?_|((first|refine Run.reg mixed ?_|refine Run.AL ?_|refine Run.Ad U4 (AN.le_refl _) ?_|refine AH.det (SM _ _) ?_|refine AH.det (SN _ _) ?_|refine AH.det (NH _ _) ?_|refine AH.det (Vc _ _) ?_|refine AH.det (Y9 _ _ (by omega)) ?_|refine AH.det (ZL _ _ (by simp)) ?_|refine AH.det (QV (c:=GC) lU W9 _ _ hld) ?_|refine AH.det (QV (c:=Ec) pJ NH _ _ hld) ?_|(refine AR rfl (fun h=>?_) (fun h=>?_)<;>try (cases h;done)))<;>try simp -implicitDefEqProofs only [Cv hb,hs1,r4,z7,gt1,go_sem])|(refine ⟨fun h=>?_,fun h=>?_⟩<;>first|(cases h;done)|try simp only [h])|fail))
 all_goals (clear hw1 hw2 hs1 hd hld;first|(simp only [D0,eM,nW, *,OJ,Bool.true_or,MZ,MY,BA,BE,DZ,EU,AU,reduceIte];done)|simp_all [D0,eM,nW])
end Go.Ab
namespace Go.Ab
open Go.Proofs
structure Tok where
 kind:Int
 text:Str
 pos:Nat
def Tok.enc (t:Tok):List DV:=[.int .i64 t.kind,.str t.text,.int .i64 t.pos]
def cmt (s:Str):Nat:=(s.takeWhile (fun c=>!(c==10))).length
def DW:Nat→Str→Nat→List Tok→List Tok×Nat×Int
 |0,_,_,_=>([],0,0)
 |n+1,rest,i,acc=>match rest with
  |[]=>(acc++[⟨6,[],i⟩],0,0)
  |b::r=>
   if T9 b.toNat then DW n r (i+1) acc
                               else if b==35 then DW n ((b::r).drop (cmt (b::r))) (i+cmt (b::r)) acc
                               else match D0 (b::r) with
    | .error e=>([],i,e)
    | .ok (k,t)=>DW n ((b::r).drop t.length) (i+t.length) (acc++[⟨k,t,i⟩])
def BG (s:Str):List Tok×Nat×Int:=if s.length>16384 then ([],0,9) else DW (s.length+1) s 0 []
def H6 (r:List Tok×Nat×Int):AV:= .tup [.d (.sl (r.1.map Tok.enc)),.d (.int .i64 r.2.1),.d (.int .i64 r.2.2)]
theorem QH (b:UInt8):((b.toNat:Int)==35)=(b==35):=vH b 35
theorem bW (b:UInt8):((b.toNat:Int)==10)=(b==10):=vH b 10
theorem pH (n:Nat):decide ((16384:Int) < (n:Int))=decide (n>16384):=decide_eq_decide.2 (by omega)
theorem Oy {s:Str} {k:Int} {t:Str} (h:D0 s= .ok (k,t)):1≤t.length∧t.length≤s.length:=by
 match s with
 |[]=>simp [D0] at h
 |b::r=>
  have h1:=Eb (CH GC) (b::r)
  have h2:=Eb (CH Ec) (b::r)
  simp only [D0] at h
  split at h
  · rename_i hlu
    have hw:CH GC b=true:=by
     simp only [CH,GC];rw [hlu];rfl
    have h3:1≤((b::r).takeWhile (CH GC)).length:=by simp [hw]
    split at h
    · cases h
    · split at h
      · cases h;exact ⟨h3,h1⟩
      · split at h<;>(cases h;exact ⟨h3,h1⟩)
  · split at h
    · rename_i hdg
      have h3:1≤((b::r).takeWhile (CH Ec)).length:=by simp [CH,hdg]
      split at h
      · cases h
      · split at h<;>cases h
        exact ⟨h3,h2⟩
    · split at h
      · cases h
      · rename_i hne
        cases h
        refine ⟨?_,List.length_take_le' _ _⟩
        cases he:(b::r).take (Fp (b::r)) with
        |nil=>rw [he] at hne;simp at hne
        |cons=>simp
theorem Ox {s:Str} {e:Int} (h:D0 s= .error e):e=2∨e=9:=by
 match s with
 |[]=>simp only [D0,Except.error.injEq] at h;omega
 |b::r=>
  simp only [D0] at h
  repeat' split at h
  all_goals first|(cases h;simp;done)|cases h
theorem SL (s:Str) (σ:AN):AQ Tryz.prog 21 [.d (.str s)] σ (fun v σ'=>v=H6 (BG s)∧σ'=σ):=by
 refine Yu (by simp) ?_
 rw [BB]
 (repeat' (first|refine Run.ct rfl ?_|((first|refine Run.reg mixed ?_|refine Run.AL ?_|refine Run.Ad Bu (AN.le_refl _) ?_)<;>try simp -implicitDefEqProofs only [pH,go_sem])|(refine ⟨fun h=>?_,fun h=>?_⟩<;>first|(cases h;done)|try simp only [h])|fail))
 · have:s.length>16384:=by simpa using h
   simp [H6,BG,this]
 · have hl:¬s.length>16384:=by simpa using h
   refine Run.Bb ?_
   refine Run.Bh ((fun (a0:AV)=>fun (y:Nat×AV×AN)=>put 0 a0 (put 5 (y.2.1) (put 6 (.d (.int .i64 y.1)) U))) _) (fun _=>E) (fun y=>y.2.2) (fun y=>y.1≤s.length∧∃acc n,EW σ 38 3 (acc.map Tok.enc) y.2.1 y.2.2∧acc.length≤y.1∧s.length - y.1 < n∧BG s=DW n (s.drop y.1) y.1 acc) (fun y=>s.length - y.1) ?_ (0,.AX,σ) ⟨by simp,[],s.length+1,EW.nil _ _ _,by simp,by simp,by simp [BG,hl]⟩
   rintro ⟨i,v,σ1⟩ ⟨hi,acc,n,ho,hac,hn,hs⟩ ih
   simp only at hi ho hac hn hs
   obtain ⟨n,rfl⟩:∃m,n=m+1:=⟨n - 1,by omega⟩
   by_cases hlt:i < s.length
   · obtain ⟨x,hx⟩:=Cd hlt
     rw [E5 hx,DW] at hs
     have hw1:=BN (show i+1≤9000000000000000000 by omega)
     have hsl:(x::s.drop (i+1)).length=s.length - i:=by simp;omega
     cases hb:T9 x.toNat with
     |true=>
      rw [hb] at hs
      (repeat' (first|refine Run.ct rfl ?_|((first|refine Run.reg mixed ?_|refine Run.AL ?_|refine Run.Ad Bu (AN.le_refl _) ?_|refine AH.det (JP _ _) ?_)<;>try simp -implicitDefEqProofs only [BU hlt,Cv hx,hb,hw1,go_sem])|fail))
      exact ih (i+1,v,σ1) ⟨hlt,acc,n,ho,by simp only;omega,by simp only;omega,hs⟩ (by simp only;omega)
     |false=>
      rw [hb,if_neg (by simp)] at hs
      cases hc:(x==35) with
      |true=>
       rw [hc,if_pos rfl] at hs
       (repeat' (first|refine Run.ct rfl ?_|((first|refine Run.reg mixed ?_|refine Run.AL ?_|refine Run.Ad Bu (AN.le_refl _) ?_|refine AH.det (JP _ _) ?_)<;>try simp -implicitDefEqProofs only [BU hlt,Cv hx,QH,hb,hc,go_sem])|fail))
       refine Run.Of [0,5,6] ?_;simp -implicitDefEqProofs only [go_sem]
       refine Run.Bb ?_
       refine Run.Bh ((fun (a0:AV) (a5:AV)=>fun (j:Nat)=>put 0 a0 (put 5 a5 (put 6 (.d (.int .i64 j)) U))) _ _) (fun _=>E) (fun _=>σ1) (fun j=>i≤j∧j≤s.length∧∀q b,q < j - i→(s.drop i)[q]?=some b→(!(b==10))=true) (fun j=>s.length - j) ?_ i ⟨A7 i,hi,by intro q b hq;omega⟩
       rintro j ⟨hij,hj,hall⟩ ih2
       have hw2:=BN (show j+1≤9000000000000000000 by omega)
       by_cases hjl:j < s.length
       · obtain ⟨z,hz⟩:=Cd hjl
         have hz2:(s.drop i)[j - i]?=some z:=by rw [BH,show i+(j - i)=j by omega];exact hz
         cases h10:(z==10) with
         |true=>
          (repeat' (first|refine Run.ct rfl ?_|((first|refine Run.reg mixed ?_|refine Run.AL ?_|refine Run.Ad Bu (AN.le_refl _) ?_)<;>try simp -implicitDefEqProofs only [BU hjl,Cv hz,bW,h10,go_sem])|fail))
          have hk:cmt (x::s.drop (i+1))=j - i:=by
           rw [← E5 hx,cmt,Ei hall (by simp;omega) (fun b hb=>by rw [hz2] at hb;cases hb;simp [h10])]
           simp;omega
          have hji:j≠i:=fun e=>by
           subst e
           rw [hx] at hz;cases hz
           simp only [beq_iff_eq] at hc h10
           rw [hc] at h10;exact absurd h10 (by decide)
          rw [hk,← E5 hx,CA,show i+(j - i)=j by omega] at hs
          refine Run.Of [0,5,6] ?_;simp -implicitDefEqProofs only [go_sem]
          exact ih (j,v,σ1) ⟨hj,acc,n,ho,by simp only;omega,by simp only;omega,hs⟩ (by simp only;omega)
         |false=>
          (repeat' (first|refine Run.ct rfl ?_|((first|refine Run.reg mixed ?_|refine Run.AL ?_|refine Run.Ad Bu (AN.le_refl _) ?_)<;>try simp -implicitDefEqProofs only [BU hjl,Cv hz,bW,h10,hw2,go_sem])|fail))
          refine ih2 (j+1) ⟨by omega,hjl,fun q b hq hb=>?_⟩ (by omega)
          rcases Cc q (j - i) with h2|h2
          · exact hall q b h2 hb
          · have:q=j - i:=by omega
            subst this
            rw [hz2] at hb;cases hb;simp [h10]
       · have hje:j=s.length:=by omega
         have hk:cmt (x::s.drop (i+1))=j - i:=by
          rw [← E5 hx,cmt,Ei hall (by simp;omega) (fun b hb=>by rw [BH,show i+(j - i)=j by omega,hje] at hb;simp at hb)]
          simp;omega
         rw [hk,← E5 hx,CA,show i+(j - i)=j by omega,hje,QX] at hs
         obtain ⟨n,rfl⟩:∃m,n=m+1:=⟨n - 1,by omega⟩
         rw [DW] at hs
         (repeat' (first|refine Run.ct rfl ?_|((first|refine Run.reg mixed ?_|refine Run.AL ?_|(refine LP.own ho rfl (by simp) (by simp;omega) (by decide) (fun v2 σ2 ho2 hbk=>?_))|(refine Run.Ad Bu ho2.le ?_)|refine Run.Ad Bu (AN.le_refl _) ?_)<;>try simp -implicitDefEqProofs only [FR hjl,go_sem])|fail))
         simp -implicitDefEqProofs only [ho2.At,ho2.plain,go_sem]
         rw [hs];simp [H6,Tok.enc]
      |false=>
       rw [hc,if_neg (by simp)] at hs
       rcases hsc:D0 (x::s.drop (i+1)) with e|⟨k,t⟩
       · rw [hsc] at hs
         have he:=Ox hsc
         have hne:(e != 0)=true:=by simp;omega
         (repeat' (first|refine Run.ct rfl ?_|((first|refine Run.reg mixed ?_|refine Run.AL ?_|(refine Run.Ad Bu ho.le ?_)|refine Run.Ad Bu (AN.le_refl _) ?_|refine AH.det (JP _ _) ?_|refine AH.det (T4 _ _ _ (by omega) hlt) ?_)<;>try simp -implicitDefEqProofs only [BU hlt,Cv hx,QH,hb,hc,E5 hx,hsc,eM,nW,hne,ho.BQ,AU,go_sem])|fail))
         rw [hs];rfl
       · rw [hsc] at hs
         have hsn:=Oy hsc
         rw [hsl] at hsn
         (repeat' (first|refine Run.ct rfl ?_|((first|refine Run.reg mixed ?_|refine Run.AL ?_|(refine LP.own ho rfl (by simp) (by simp;omega) (by decide) (fun v2 σ2 ho2 hbk=>?_))|refine Run.Ad Bu (AN.le_refl _) ?_|refine AH.det (JP _ _) ?_|refine AH.det (T4 _ _ _ (by omega) hlt) ?_)<;>try simp -implicitDefEqProofs only [BU hlt,Cv hx,QH,hb,hc,E5 hx,hsc,eM,nW,ho.BQ,AU,wrap_add (show i+t.length≤9000000000000000000 by omega),go_sem])|(refine ⟨fun h=>?_,fun h=>?_⟩<;>first|(cases h;done)|try simp only [h])|fail))
         refine ih (i+t.length,v2,σ2) ⟨?_,acc++[⟨k,t,i⟩],n,?_,?_,?_,?_⟩ ?_
         · simp only;omega
         · simpa [Tok.enc] using ho2
         · simp only [AA,List.length_singleton];omega
         · simp only;omega
         · rw [hs];simp only;rw [← E5 hx,CA]
         · simp only;omega
   · have hge:i=s.length:=by omega
     rw [hge,QX,DW] at hs
     (repeat' (first|refine Run.ct rfl ?_|((first|refine Run.reg mixed ?_|refine Run.AL ?_|(refine LP.own ho rfl (by simp) (by simp;omega) (by decide) (fun v2 σ2 ho2 hbk=>?_))|(refine Run.Ad Bu ho2.le ?_)|refine Run.Ad Bu (AN.le_refl _) ?_)<;>try simp -implicitDefEqProofs only [FR hlt,go_sem])|fail))
     simp -implicitDefEqProofs only [ho2.At,ho2.plain,go_sem]
     rw [hs];simp [H6,Tok.enc]
end Go.Ab
