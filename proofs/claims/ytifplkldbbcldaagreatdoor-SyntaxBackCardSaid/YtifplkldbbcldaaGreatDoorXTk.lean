/- Bytes and keywords. Keywords and numbers of the reference. Signs, numbers and prefixes. Prefixes and tokens. One token. Texts split into tokens. Conditions: none. -/
import Derived.Test.YtifplkldbbcldaaGreatDoorXLfP
set_option linter.unusedSimpArgs false
set_option linter.unusedVariables false
set_option maxRecDepth 4000
set_option maxHeartbeats 8000000
open Bool renaming or_false→M9,false_or→M8,or_true→OW,eq_iff_iff→Dg,false_eq_true→AU,and_true→BB,true_and→BH,and_false→D2,false_and→EX
open List renaming length_map→AB,drop_length→Qe,take_succ_cons→TT,take_zero→K6,takeWhile_cons→FZ,getElem?_drop→BK,drop_drop→CD,length_append→AA
open Nat renaming lt_or_ge→Cf,le_refl→A7
namespace Go.Ab
open Go.Proofs
def MV (n:Int):Bool:=decide (97≤n)&&decide (n≤122)
def KY (n:Int):Bool:=decide (65≤n)&&decide (n≤90)
def Eg (n:Int):Bool:=decide (48≤n)&&decide (n≤57)
def GK (n:Int):Bool:=MV n||KY n||Eg n||(n==95)
def Ts (n:Int):Bool:=(n==9)||(n==10)||(n==13)||(n==32)
theorem S5 (n:Int) (σ:AM):AR Tryz.prog 112 [.d (.int .u8 n)] σ (fun v σ'=>v= .d (.bool (MV n))∧σ'=σ):=by
 refine Z9 (by simp) ?_
 rw [BC]
 (repeat' (first|refine Run.ct rfl ?_|((first|refine Run.reg mixed ?_|refine Run.AJ ?_|refine Run.Aa Te (AM.le_refl _) ?_|(refine AP rfl (fun h=>?_) (fun h=>?_)<;>try (cases h;done)))<;>try simp -implicitDefEqProofs only [go_sem])|fail))
 all_goals (simp_all [MV];try omega)
theorem S6 (n:Int) (σ:AM):AR Tryz.prog 113 [.d (.int .u8 n)] σ (fun v σ'=>v= .d (.bool (KY n))∧σ'=σ):=by
 refine Zb (by simp) ?_
 rw [BC]
 (repeat' (first|refine Run.ct rfl ?_|((first|refine Run.reg mixed ?_|refine Run.AJ ?_|refine Run.Aa Tf (AM.le_refl _) ?_|(refine AP rfl (fun h=>?_) (fun h=>?_)<;>try (cases h;done)))<;>try simp -implicitDefEqProofs only [go_sem])|fail))
 all_goals (simp_all [KY];try omega)
theorem NT (n:Int) (σ:AM):AR Tryz.prog 117 [.d (.int .u8 n)] σ (fun v σ'=>v= .d (.bool (Eg n))∧σ'=σ):=by
 refine Z8 (by simp) ?_
 rw [BC]
 (repeat' (first|refine Run.ct rfl ?_|((first|refine Run.reg mixed ?_|refine Run.AJ ?_|refine Run.Aa Td (AM.le_refl _) ?_|(refine AP rfl (fun h=>?_) (fun h=>?_)<;>try (cases h;done)))<;>try simp -implicitDefEqProofs only [go_sem])|fail))
 all_goals (simp_all [Eg];try omega)
theorem I9 (n:Int) (σ:AM):AR Tryz.prog 69 [.d (.int .u8 n)] σ (fun v σ'=>v= .d (.bool (MV n))∧σ'=σ):=by
 refine iV (by simp) ?_
 rw [BC]
 (repeat' (first|refine Run.ct rfl ?_|((first|refine Run.reg mixed ?_|refine Run.AJ ?_|refine Run.Aa Xu (AM.le_refl _) ?_|(refine AP rfl (fun h=>?_) (fun h=>?_)<;>try (cases h;done)))<;>try simp -implicitDefEqProofs only [go_sem])|fail))
 all_goals (simp_all [MV];try omega)
theorem Ia (n:Int) (σ:AM):AR Tryz.prog 70 [.d (.int .u8 n)] σ (fun v σ'=>v= .d (.bool (KY n))∧σ'=σ):=by
 refine iW (by simp) ?_
 rw [BC]
 (repeat' (first|refine Run.ct rfl ?_|((first|refine Run.reg mixed ?_|refine Run.AJ ?_|refine Run.Aa Xv (AM.le_refl _) ?_|(refine AP rfl (fun h=>?_) (fun h=>?_)<;>try (cases h;done)))<;>try simp -implicitDefEqProofs only [go_sem])|fail))
 all_goals (simp_all [KY];try omega)
theorem HM (n:Int) (σ:AM):AR Tryz.prog 71 [.d (.int .u8 n)] σ (fun v σ'=>v= .d (.bool (Eg n))∧σ'=σ):=by
 refine iU (by simp) ?_
 rw [BC]
 (repeat' (first|refine Run.ct rfl ?_|((first|refine Run.reg mixed ?_|refine Run.AJ ?_|refine Run.Aa Xt (AM.le_refl _) ?_|(refine AP rfl (fun h=>?_) (fun h=>?_)<;>try (cases h;done)))<;>try simp -implicitDefEqProofs only [go_sem])|fail))
 all_goals (simp_all [Eg];try omega)
theorem JY (n:Int) (σ:AM):AR Tryz.prog 58 [.d (.int .u8 n)] σ (fun v σ'=>v= .d (.bool (Ts n))∧σ'=σ):=by
 refine Z7 (by simp) ?_
 rw [BC]
 (repeat' (first|refine Run.ct rfl ?_|((first|refine Run.reg mixed ?_|refine Run.AJ ?_|refine Run.Aa Tc (AM.le_refl _) ?_|(refine AP rfl (fun h=>?_) (fun h=>?_)<;>try (cases h;done)))<;>try simp -implicitDefEqProofs only [go_sem])|fail))
 all_goals simp_all [Ts]
theorem Wy (n:Int) (σ:AM):AR Tryz.prog 115 [.d (.int .u8 n)] σ (fun v σ'=>v= .d (.bool (GK n))∧σ'=σ):=by
 refine YG (by simp) ?_
 rw [BC]
 (repeat' (first|refine Run.ct rfl ?_|((first|refine Run.reg mixed ?_|refine Run.AJ ?_|refine Run.Aa Rh (AM.le_refl _) ?_|refine AG.det (S5 _ _) ?_|refine AG.det (S6 _ _) ?_|refine AG.det (NT _ _) ?_|(refine AP rfl (fun h=>?_) (fun h=>?_)<;>try (cases h;done)))<;>try simp -implicitDefEqProofs only [go_sem])|fail))
 all_goals simp_all [GK]
def FI:List Str:=[[97,114,114,97,121],[98,111,111,108],[99,97,116,99,104],[100,97,116,97],[101,108,115,101],[101,110,100],[102,97,108,115,101],[102,110],[102,117,110],[103,101,116],[105,102],[105,110],[105,110,116],[108,101,110],[108,101,116],[109,97,116,99,104],[110,101,119],[114,97,105,115,101],[114,101,97,100],[114,101,102],[115,101,116],[116,104,101,110],[116,105,99,107],[116,114,117,101],[116,114,121],[117,110,105,116],[119,105,116,104],[119,114,105,116,101]]
def SE (s:Str):Bool:=FI.any (s==·)
set_option maxHeartbeats 4000000 in
theorem Vy (s:Str) (σ:AM):AR Tryz.prog 116 [.d (.str s)] σ (fun v σ'=>v= .d (.bool (SE s))∧σ'=σ):=by
 refine Wf (by simp) ?_
 rw [BC]
 (repeat' (first|refine Run.ct rfl ?_|((first|refine Run.reg mixed ?_|refine Run.AJ ?_|refine Run.Aa Q7 (AM.le_refl _) ?_)<;>try simp -implicitDefEqProofs only [go_sem])|(refine ⟨fun h=>?_,fun h=>?_⟩<;>first|(cases h;done)|try simp only [h])|fail))
 all_goals simp only [SE,FI,List.any_cons,List.any_nil,M9,M8,Bool.true_or,OW,and_self, *]
end Go.Ab
namespace Go.Ab
open Go.Proofs
theorem Ze (s:Str) (σ:AM):AR Tryz.prog 72 [.d (.str s)] σ (fun v σ'=>v= .d (.bool (SE s))∧σ'=σ):=by
 refine bW (by simp) ?_
 rw [BC]
 (repeat (first
   |refine Run.seq ?_
   |refine Run.skip ?_
   |refine Run.block ?_
   |refine Run.blk ?_
   |refine Run.scope ?_
   |refine Run.scp ?_
   |(refine Run.exit rfl ?_)
   |(refine Run.reg mixed ?_;simp -implicitDefEqProofs only [go_sem])
   |(refine Run.AJ ?_;simp -implicitDefEqProofs only [go_sem])))
 refine Run.B1 ?_
 refine Run.B7 ((fun (a0:AV)=>fun (i:Nat)=>put 0 a0 (put 3 (.d (.sl (FI.map Cn))) (put 4 (.d (.int .i64 i)) U))) _) (fun _=>E) (fun _=>σ) (fun i=>i≤FI.length∧SE s=(FI.drop i).any (s==·)) (fun i=>FI.length - i) ?_ 0 ⟨by omega,rfl⟩
 rintro i ⟨hi,hs⟩ ih
 by_cases hlt:i < FI.length
 · obtain ⟨x,hx⟩:=Ba hlt
   have he:=BX (enc:=Cn) hx
   rw [E9 hx,List.any_cons] at hs
   (repeat' (first|refine Run.ct rfl ?_|((first|refine Run.reg mixed ?_|refine Run.AJ ?_|refine Run.Aa Pj (AM.le_refl _) ?_)<;>try simp -implicitDefEqProofs only [AB,BG hlt,he,Cn,BQ (show i+1≤9000000000000000000 by have:FI.length=28:=rfl;omega),go_sem])|(refine ⟨fun h=>?_,fun h=>?_⟩<;>first|(cases h;done)|try simp only [h])|fail))
   · rw [hs];simp_all
   · refine ih (i+1) ⟨hlt,?_⟩ (by omega)
     rw [hs,show (s==x)=(x==s) from BEq.comm,h,M8]
 · have hge:i=FI.length:=by omega
   (repeat' (first|refine Run.ct rfl ?_|((first|refine Run.reg mixed ?_|refine Run.AJ ?_|refine Run.Aa Pj (AM.le_refl _) ?_)<;>try simp -implicitDefEqProofs only [AB,E0 hlt,go_sem])|fail))
   rw [hs,hge];rfl
def Ez:Str→Int→Option Int
 |[],v=>some v
 |b::r,v=>if v * 10+IntKind.u8.wrap ((b.toNat:Int) - 48)>1000000 then none else Ez r (v * 10+IntKind.u8.wrap ((b.toNat:Int) - 48))
theorem x9 (a:Int):0≤IntKind.u8.wrap a∧IntKind.u8.wrap a≤255:=by
 have h1:IntKind.u8.wrap a=a % 256:=by rfl
 rw [h1];omega
theorem fP (s:Str) (σ:AM) (hl:s.length≤1000000000):AR Tryz.prog 73 [.d (.str s)] σ (fun v σ'=>v=(match Ez s 0 with|some n=>.tup [.d (.int .i64 n),.d (.bool true)]|none=>.tup [.d (.int .i64 0),.d (.bool false)])∧σ'=σ):=by
 refine iT (by simp) ?_
 rw [BC]
 (repeat (first
   |refine Run.seq ?_
   |refine Run.skip ?_
   |refine Run.block ?_
   |refine Run.blk ?_
   |refine Run.scope ?_
   |refine Run.scp ?_
   |(refine Run.exit rfl ?_)
   |(refine Run.reg mixed ?_;simp -implicitDefEqProofs only [go_sem])
   |(refine Run.AJ ?_;simp -implicitDefEqProofs only [go_sem])))
 refine Run.B1 ?_
 refine Run.B7 ((fun (a0:AV)=>fun (y:Nat×Int)=>put 0 a0 (put 4 (.d (.int .i64 y.2)) (put 5 (.d (.int .i64 y.1)) U))) _) (fun _=>E) (fun _=>σ) (fun y=>y.1≤s.length∧0≤y.2∧y.2≤1000000∧Ez s 0=Ez (s.drop y.1) y.2) (fun y=>s.length - y.1) ?_ (0,0) ⟨by simp,by simp,by simp,rfl⟩
 rintro ⟨i,v⟩ ⟨hi,h0,h1,hs⟩ ih
 simp only at hi h0 h1 hs
 by_cases hlt:i < s.length
 · obtain ⟨x,hx⟩:=Ba hlt
   rw [E9 hx,Ez] at hs
   have hu:=x9 ((x.toNat:Int) - 48)
   have e1:IntKind.i64.wrap (v * 10)=v * 10:=Aw (by omega) (by omega)
   have e2:IntKind.i64.wrap (IntKind.u8.wrap ((x.toNat:Int) - 48))=IntKind.u8.wrap ((x.toNat:Int) - 48):=Aw (by omega) (by omega)
   have e3:IntKind.i64.wrap (v * 10+IntKind.u8.wrap ((x.toNat:Int) - 48))=v * 10+IntKind.u8.wrap ((x.toNat:Int) - 48):=Aw (by omega) (by omega)
   (repeat' (first|refine Run.ct rfl ?_|((first|refine Run.reg mixed ?_|refine Run.AJ ?_|refine Run.Aa UC (AM.le_refl _) ?_)<;>try simp -implicitDefEqProofs only [BG hlt,Cz hx,e1,e2,e3,BQ (show i+1≤9000000000000000000 by omega),go_sem])|(refine ⟨fun h=>?_,fun h=>?_⟩<;>first|(cases h;done)|try simp only [h])|fail))
   · have:v * 10+IntKind.u8.wrap ((x.toNat:Int) - 48)>1000000:=by simpa using h
     rw [hs,if_pos this]
   · have:¬v * 10+IntKind.u8.wrap ((x.toNat:Int) - 48)>1000000:=by simpa using h
     rw [if_neg this] at hs
     exact ih (i+1,_) ⟨hlt,by simp only;omega,by simp only;omega,hs⟩ (by simp only;omega)
 · have hge:i=s.length:=by omega
   (repeat' (first|refine Run.ct rfl ?_|((first|refine Run.reg mixed ?_|refine Run.AJ ?_|refine Run.Aa UC (AM.le_refl _) ?_)<;>try simp -implicitDefEqProofs only [E0 hlt,go_sem])|fail))
   rw [hs,hge,Qe,Ez]
end Go.Ab
namespace Go.Ab
open Go.Proofs
def Ym:Str:=[40,41,44,61,124,43,45,42,47,37,60,59,95]
def Zk (b:UInt8):Nat:=if Ym.any (b==·) then 1 else 0
def Zl (b c:UInt8):Bool:=([b,c]==[45,62])||([b,c]==[60,61])||([b,c]==[61,61])
def Fy:Str→Nat
 |[]=>0
 |[b]=>Zk b
 |b::c::_=>if Zl b c then 2 else Zk b
theorem xU:decide ((2:Int)≤((1:Nat):Int))=false:=rfl
theorem xV (n:Nat):decide ((2:Int)≤((n+1+1:Nat):Int))=true:=by simp;omega
theorem ABD (b c:UInt8):([b]==[c])=(b==c):=by
 rw [Dg];simp
set_option maxHeartbeats 4000000 in
theorem Zm (s:Str) (σ:AM) (hs:s≠[]):AR Tryz.prog 119 [.d (.str s)] σ (fun v σ'=>v= .d (.str (s.take (Fy s)))∧σ'=σ):=by
 match s,hs with
 |[b],_=>
  refine Ur (by simp) ?_
  rw [BC]
  (repeat' (first|refine Run.ct rfl ?_|((first|refine Run.reg mixed ?_|refine Run.AJ ?_|refine Run.Aa Pk (AM.le_refl _) ?_)<;>try simp -implicitDefEqProofs only [xU,xZ,ABD,go_sem])|(refine ⟨fun h=>?_,fun h=>?_⟩<;>first|(cases h;done)|try simp only [h])|fail))
  all_goals simp only [Fy,Zk,Ym,List.any_cons,List.any_nil,M9,M8,Bool.true_or,OW,reduceIte,TT,K6,AU,and_self, *]
 |b::c::r,_=>
  refine Ur (by simp) ?_
  rw [BC]
  (repeat' (first|refine Run.ct rfl ?_|((first|refine Run.reg mixed ?_|refine Run.AJ ?_|refine Run.Aa Pk (AM.le_refl _) ?_)<;>try simp -implicitDefEqProofs only [xV,xZ,x8,ABD,go_sem])|(refine ⟨fun h=>?_,fun h=>?_⟩<;>first|(cases h;done)|try simp only [h])|fail))
  all_goals simp only [Fy,Zl,Zk,Ym,List.any_cons,List.any_nil,M9,M8,Bool.true_or,OW,reduceIte,TT,K6,AU,and_self, *]
theorem ZF (s:Str) (σ:AM) (hl:s.length≤1000000000):AR Tryz.prog 118 [.d (.str s)] σ (fun v σ'=>v= .d (.bool (Ez s 0).isSome)∧σ'=σ):=by
 refine Za (by simp) ?_
 rw [BC]
 (repeat (first
   |refine Run.seq ?_
   |refine Run.skip ?_
   |refine Run.block ?_
   |refine Run.blk ?_
   |refine Run.scope ?_
   |refine Run.scp ?_
   |(refine Run.exit rfl ?_)
   |(refine Run.reg mixed ?_;simp -implicitDefEqProofs only [go_sem])
   |(refine Run.AJ ?_;simp -implicitDefEqProofs only [go_sem])))
 refine Run.B1 ?_
 refine Run.B7 ((fun (a0:AV) (a6:AV)=>fun (y:Nat×Int)=>put 0 a0 (put 3 (.d (.int .i64 y.2)) (put 6 a6 (put 7 (.d (.int .i64 y.1)) U)))) _ _) (fun _=>E) (fun _=>σ) (fun y=>y.1≤s.length∧0≤y.2∧y.2≤1000000∧Ez s 0=Ez (s.drop y.1) y.2) (fun y=>s.length - y.1) ?_ (0,0) ⟨by simp,by simp,by simp,rfl⟩
 rintro ⟨i,v⟩ ⟨hi,h0,h1,hs⟩ ih
 simp only at hi h0 h1 hs
 by_cases hlt:i < s.length
 · obtain ⟨x,hx⟩:=Ba hlt
   rw [E9 hx,Ez] at hs
   have hu:=x9 ((x.toNat:Int) - 48)
   have e1:IntKind.i64.wrap (v * 10)=v * 10:=Aw (by omega) (by omega)
   have e2:IntKind.i64.wrap (IntKind.u8.wrap ((x.toNat:Int) - 48))=IntKind.u8.wrap ((x.toNat:Int) - 48):=Aw (by omega) (by omega)
   have e3:IntKind.i64.wrap (v * 10+IntKind.u8.wrap ((x.toNat:Int) - 48))=v * 10+IntKind.u8.wrap ((x.toNat:Int) - 48):=Aw (by omega) (by omega)
   (repeat' (first|refine Run.ct rfl ?_|((first|refine Run.reg mixed ?_|refine Run.AJ ?_|refine Run.Aa OC (AM.le_refl _) ?_)<;>try simp -implicitDefEqProofs only [BG hlt,Cz hx,e1,e2,e3,BQ (show i+1≤9000000000000000000 by omega),go_sem])|(refine ⟨fun h=>?_,fun h=>?_⟩<;>first|(cases h;done)|try simp only [h])|fail))
   · have:v * 10+IntKind.u8.wrap ((x.toNat:Int) - 48)>1000000:=by simpa using h
     rw [hs,if_pos this];rfl
   · have:¬v * 10+IntKind.u8.wrap ((x.toNat:Int) - 48)>1000000:=by simpa using h
     rw [if_neg this] at hs
     exact ih (i+1,_) ⟨hlt,by simp only;omega,by simp only;omega,hs⟩ (by simp only;omega)
 · have hge:i=s.length:=by omega
   (repeat' (first|refine Run.ct rfl ?_|((first|refine Run.reg mixed ?_|refine Run.AJ ?_|refine Run.Aa OC (AM.le_refl _) ?_)<;>try simp -implicitDefEqProofs only [E0 hlt,go_sem])|fail))
   rw [hs,hge,Qe,Ez];rfl
end Go.Ab
namespace Go.Ab
open Go.Proofs
def CL (c:Int→Bool) (b:UInt8):Bool:=c b.toNat
theorem En {c:UInt8→Bool} {s:Str} {i:Nat} (h:∀j b,j < i→s[j]?=some b→c b=true) (hi:i≤s.length) (he:∀b,s[i]?=some b→c b=false):s.takeWhile c=s.take i:=by
 induction i generalizing s with
 |zero=>
  cases s with
  |nil=>rfl
  |cons b r=>simp [he b rfl]
 |succ i ih=>
  cases s with
  |nil=>simp at hi
  |cons b r=>
   have hb:c b=true:=h 0 b (by omega) rfl
   rw [FZ,hb,if_pos rfl,TT,ih (fun j b hj hb=>h (j+1) b (by omega) hb) (by simpa using hi) (fun b hb=>he b hb)]
theorem Qc {fid:FuncId} (hb:Ap Tryz.prog fid=true) (c:Int→Bool) (hc:∀n σ,AR Tryz.prog fid [.d (.int .u8 n)] σ (fun v σ'=>v= .d (.bool (c n))∧σ'=σ)) (s:Str) (σ:AM) (hl:s.length≤1000000000):
 AR Tryz.prog 114 [.d (.str s),.fn fid [] []] σ (fun v σ'=>v= .d (.str (s.takeWhile (CL c)))∧σ'=σ):=by
 refine YF (by simp) ?_
 rw [BF]
 (repeat (first
   |refine Run.seq ?_
   |refine Run.skip ?_
   |refine Run.block ?_
   |refine Run.blk ?_
   |refine Run.scope ?_
   |refine Run.scp ?_
   |(refine Run.exit rfl ?_)
   |(refine Run.reg mixed ?_;simp -implicitDefEqProofs only [go_sem])
   |(refine Run.AJ ?_;simp -implicitDefEqProofs only [go_sem])))
 refine Run.B1 ?_
 refine Run.B7 ((fun (a0:AV) (a1:AV)=>fun (i:Nat)=>put 0 a0 (put 1 a1 (put 5 (.d (.int .i64 i)) U))) _ _) (fun _=>E) (fun _=>σ) (fun i=>i≤s.length∧∀j b,j < i→s[j]?=some b→CL c b=true) (fun i=>s.length - i) ?_ 0 ⟨by simp,by simp⟩
 rintro i ⟨hi,hs⟩ ih
 by_cases hlt:i < s.length
 · obtain ⟨x,hx⟩:=Ba hlt
   (repeat' (first|refine Run.ct rfl ?_|((first|refine Run.reg mixed ?_|refine Run.AJ ?_|(refine ⟨fid,[],[],rfl,hb,AG.det (hc _ _) ?_⟩)|refine Run.Aa Mv (AM.le_refl _) ?_)<;>try simp -implicitDefEqProofs only [BG hlt,Cz hx,dC hi,BQ (show i+1≤9000000000000000000 by omega),go_sem])|(refine ⟨fun h=>?_,fun h=>?_⟩<;>first|(cases h;done)|try simp only [h])|fail))
   · refine ih (i+1) ⟨hlt,fun j b hj hb=>?_⟩ (by omega)
     rcases Cf j i with h2|h2
     · exact hs j b h2 hb
     · have:j=i:=by omega
       subst this
       rw [hx] at hb;cases hb;exact h
   · rw [En hs hi (fun b hb=>by rw [hx] at hb;cases hb;exact h)]
 · have hge:i=s.length:=by omega
   (repeat' (first|refine Run.ct rfl ?_|((first|refine Run.reg mixed ?_|refine Run.AJ ?_|refine Run.Aa Mv (AM.le_refl _) ?_)<;>try simp -implicitDefEqProofs only [E0 hlt,dC hi,go_sem])|fail))
   rw [En hs hi (fun b hb=>by rw [hge] at hb;simp at hb)]
theorem j3 (s:Str) (σ:AM) (hs:s≠[]):AR Tryz.prog 74 [.d (.str s)] σ (fun v σ'=>v= .d (.int .i64 (Fy s))∧σ'=σ):=by
 have hloop:∀(b:UInt8) (r:Str),(Fy (b::r)=Zk b)→Run M7 (fun v σ'=>v= .d (.int .i64 (Fy (b::r)))∧σ'=σ) [.again U9,.blk 0,.code (.seq (.reg [⟨some 2,.mv (.c (.d (.int .i64 0))),none⟩] [2]) .ret)] (put 0 (.d (.str (b::r))) (put 3 (.d (.str Ym)) (put 4 (.d (.int .i64 0)) U))) E σ:=by
  intro b r hbr
  refine Run.B7 ((fun (a0:AV) (a3:AV)=>fun (i:Nat)=>put 0 a0 (put 3 a3 (put 4 (.d (.int .i64 i)) U))) _ _) (fun _=>E) (fun _=>σ) (fun i=>i≤Ym.length∧Ym.any (b==·)=(Ym.drop i).any (b==·)) (fun i=>Ym.length - i) ?_ 0 ⟨by simp,rfl⟩
  rintro i ⟨hi,hs⟩ ih
  have hn:Ym.length=13:=rfl
  have h0:(b::r)[0]?=some b:=rfl
  by_cases hlt:i < Ym.length
  · obtain ⟨x,hx⟩:=Ba hlt
    rw [E9 hx,List.any_cons] at hs
    have hz:=Cz h0 .i64
    rw [show ((0:Nat):Int)=0 from rfl] at hz
    (repeat' (first|refine Run.ct rfl ?_|((first|refine Run.reg mixed ?_|refine Run.AJ ?_|refine Run.Aa O9 (AM.le_refl _) ?_)<;>try simp -implicitDefEqProofs only [BG hlt,Cz hx,hz,w5,BQ (show i+1≤9000000000000000000 by omega),go_sem])|(refine ⟨fun h=>?_,fun h=>?_⟩<;>first|(cases h;done)|try simp only [h])|fail))
    · rw [hbr,Zk,hs,h];rfl
    · exact ih (i+1) ⟨hlt,by rw [hs,h];rfl⟩ (by omega)
  · have hge:i=Ym.length:=by omega
    (repeat' (first|refine Run.ct rfl ?_|((first|refine Run.reg mixed ?_|refine Run.AJ ?_|refine Run.Aa O9 (AM.le_refl _) ?_)<;>try simp -implicitDefEqProofs only [E0 hlt,go_sem])|fail))
    rw [hbr,Zk,hs,hge];rfl
 match s,hs with
 |[b],_=>
  refine aF (by simp) ?_
  rw [BC]
  (repeat' (first|refine Run.ct rfl ?_|((first|refine Run.reg mixed ?_|refine Run.AJ ?_|refine Run.Aa O9 (AM.le_refl _) ?_)<;>try simp -implicitDefEqProofs only [xU,go_sem])|fail))
  exact Run.B1 (hloop b [] rfl)
 |b::c::r,_=>
  refine aF (by simp) ?_
  rw [BC]
  (repeat' (first|refine Run.ct rfl ?_|((first|refine Run.reg mixed ?_|refine Run.AJ ?_|refine Run.Aa O9 (AM.le_refl _) ?_|(refine AP rfl (fun h=>?_) (fun h=>?_)<;>try (cases h;done)))<;>try simp -implicitDefEqProofs only [xV,x8,go_sem])|(refine ⟨fun h=>?_,fun h=>?_⟩<;>first|(cases h;done)|try simp only [h])|fail))
  all_goals (first|exact Run.B1 (hloop b (c::r) (by simp only [Fy,Zl, *];rfl))|(simp only [Fy,Zl, *];rfl))
end Go.Ab
namespace Go.Ab
open Go.Proofs
def D3:Str→Except Int (Int×Str)
 |[]=>.error 2
 |b::r=>
  if MV b.toNat||KY b.toNat then
   if decide (((b::r).takeWhile (CL GK)).length>24) then .error 9
                                  else if KY b.toNat then .ok (2,(b::r).takeWhile (CL GK))
                                  else if SE ((b::r).takeWhile (CL GK)) then .ok (4,(b::r).takeWhile (CL GK))
                                  else .ok (1,(b::r).takeWhile (CL GK))
                                  else if Eg b.toNat then
   if b==48&&decide (((b::r).takeWhile (CL Eg)).length>1) then .error 2
                                         else if (Ez ((b::r).takeWhile (CL Eg)) 0).isSome then .ok (3,(b::r).takeWhile (CL Eg))
                                         else .error 9
                                         else if (b::r).take (Fy (b::r))==[] then .error 2
                                         else .ok (5,(b::r).take (Fy (b::r)))
def pI (k:Int) (t:Str) (p:Int):AV:= .agg [.d (.int .i64 k),.d (.str t),.d (.int .i64 p)]
def gB (p:Int):Except Int (Int×Str)→AV
 | .error e=>.tup [pI 0 [] 0,.d (.int .i64 e)]
 | .ok (k,t)=>.tup [pI k t p,.d (.int .i64 0)]
theorem Ef {α:Type} (p:α→Bool) (l:List α):(l.takeWhile p).length≤l.length:=(List.takeWhile_prefix p).length_le
theorem tS (b:UInt8):((b.toNat:Int)==48)=(b==48):=w5 b 48
theorem ABO (n:Nat):decide ((24:Int) < (n:Int))=decide (n>24):=decide_eq_decide.2 (by omega)
theorem gt1 (n:Nat):decide ((1:Int) < (n:Int))=decide (n>1):=decide_eq_decide.2 (by omega)
theorem nM:Ap Tryz.prog 115=true:=by kernel_rfl
theorem rA:Ap Tryz.prog 117=true:=by kernel_rfl
theorem Tn (src:Str) (i:Nat) (σ:AM) (hl:src.length≤1000000000) (hi:i < src.length):
 AR Tryz.prog 59 [.d (.str src),.d (.int .i64 i)] σ (fun v σ'=>v=gB i (D3 (src.drop i))∧σ'=σ):=by
 obtain ⟨b,hb⟩:=Ba hi
 have hd:=E9 hb
 rw [hd]
 have hld:(src.drop i).length≤1000000000:=by simp;omega
 rw [hd] at hld
 have hw1:=Ef (CL GK) (b::src.drop (i+1))
 have hw2:=Ef (CL Eg) (b::src.drop (i+1))
 have hs1:S2 (.d (.str src)) (some (.d (.int .i64 (i:Int)))) none=some (.d (.str (b::src.drop (i+1)))):=by rw [tI (by omega),hd]
 refine bX (by simp) ?_
 rw [BF]
 generalize src.drop (i+1)=r at *
 (repeat' (first|refine Run.ct rfl ?_|((first|refine Run.reg mixed ?_|refine Run.AJ ?_|refine Run.Aa Uo (AM.le_refl _) ?_|refine AG.det (S5 _ _) ?_|refine AG.det (S6 _ _) ?_|refine AG.det (NT _ _) ?_|refine AG.det (Vy _ _) ?_|refine AG.det (ZF _ _ (by omega)) ?_|refine AG.det (Zm _ _ (by simp)) ?_|refine AG.det (Qc (c:=GK) nM Wy _ _ hld) ?_|refine AG.det (Qc (c:=Eg) rA NT _ _ hld) ?_|(refine AP rfl (fun h=>?_) (fun h=>?_)<;>try (cases h;done)))<;>try simp -implicitDefEqProofs only [Cz hb,hs1,tS,ABO,gt1,go_sem])|(refine ⟨fun h=>?_,fun h=>?_⟩<;>first|(cases h;done)|try simp only [h])|fail))
 all_goals (clear hw1 hw2 hs1 hd hld;first|(simp only [D3,gB,pI, *,OW,Bool.true_or,M9,M8,BB,BH,D2,EX,AU,reduceIte];done)|simp_all [D3,gB,pI])
end Go.Ab
namespace Go.Ab
open Go.Proofs
structure Tok where
 kind:Int
 text:Str
 pos:Nat
def Tok.enc (t:Tok):List DV:=[.int .i64 t.kind,.str t.text,.int .i64 t.pos]
def cmt (s:Str):Nat:=(s.takeWhile (fun c=>!(c==10))).length
def DZ:Nat→Str→Nat→List Tok→List Tok×Nat×Int
 |0,_,_,_=>([],0,0)
 |n+1,rest,i,acc=>match rest with
  |[]=>(acc++[⟨6,[],i⟩],0,0)
  |b::r=>
   if Ts b.toNat then DZ n r (i+1) acc
                               else if b==35 then DZ n ((b::r).drop (cmt (b::r))) (i+cmt (b::r)) acc
                               else match D3 (b::r) with
    | .error e=>([],i,e)
    | .ok (k,t)=>DZ n ((b::r).drop t.length) (i+t.length) (acc++[⟨k,t,i⟩])
def BJ (s:Str):List Tok×Nat×Int:=if s.length>16384 then ([],0,9) else DZ (s.length+1) s 0 []
def Hd (r:List Tok×Nat×Int):AV:= .tup [.d (.sl (r.1.map Tok.enc)),.d (.int .i64 r.2.1),.d (.int .i64 r.2.2)]
theorem QW (b:UInt8):((b.toNat:Int)==35)=(b==35):=w5 b 35
theorem dG (b:UInt8):((b.toNat:Int)==10)=(b==10):=w5 b 10
theorem q8 (n:Nat):decide ((16384:Int) < (n:Int))=decide (n>16384):=decide_eq_decide.2 (by omega)
theorem PN {s:Str} {k:Int} {t:Str} (h:D3 s= .ok (k,t)):1≤t.length∧t.length≤s.length:=by
 match s with
 |[]=>simp [D3] at h
 |b::r=>
  have h1:=Ef (CL GK) (b::r)
  have h2:=Ef (CL Eg) (b::r)
  simp only [D3] at h
  split at h
  · rename_i hlu
    have hw:CL GK b=true:=by
     simp only [CL,GK];rw [hlu];rfl
    have h3:1≤((b::r).takeWhile (CL GK)).length:=by simp [hw]
    split at h
    · cases h
    · split at h
      · cases h;exact ⟨h3,h1⟩
      · split at h<;>(cases h;exact ⟨h3,h1⟩)
  · split at h
    · rename_i hdg
      have h3:1≤((b::r).takeWhile (CL Eg)).length:=by simp [CL,hdg]
      split at h
      · cases h
      · split at h<;>cases h
        exact ⟨h3,h2⟩
    · split at h
      · cases h
      · rename_i hne
        cases h
        refine ⟨?_,List.length_take_le' _ _⟩
        cases he:(b::r).take (Fy (b::r)) with
        |nil=>rw [he] at hne;simp at hne
        |cons=>simp
theorem PL {s:Str} {e:Int} (h:D3 s= .error e):e=2∨e=9:=by
 match s with
 |[]=>simp only [D3,Except.error.injEq] at h;omega
 |b::r=>
  simp only [D3] at h
  repeat' split at h
  all_goals first|(cases h;simp;done)|cases h
theorem S4 (s:Str) (σ:AM):AR Tryz.prog 21 [.d (.str s)] σ (fun v σ'=>v=Hd (BJ s)∧σ'=σ):=by
 refine Z6 (by simp) ?_
 rw [BC]
 (repeat' (first|refine Run.ct rfl ?_|((first|refine Run.reg mixed ?_|refine Run.AJ ?_|refine Run.Aa Bx (AM.le_refl _) ?_)<;>try simp -implicitDefEqProofs only [q8,go_sem])|(refine ⟨fun h=>?_,fun h=>?_⟩<;>first|(cases h;done)|try simp only [h])|fail))
 · have:s.length>16384:=by simpa using h
   simp [Hd,BJ,this]
 · have hl:¬s.length>16384:=by simpa using h
   refine Run.B1 ?_
   refine Run.B7 ((fun (a0:AV)=>fun (y:Nat×AV×AM)=>put 0 a0 (put 5 (y.2.1) (put 6 (.d (.int .i64 y.1)) U))) _) (fun _=>E) (fun y=>y.2.2) (fun y=>y.1≤s.length∧∃acc n,EZ σ 38 3 (acc.map Tok.enc) y.2.1 y.2.2∧acc.length≤y.1∧s.length - y.1 < n∧BJ s=DZ n (s.drop y.1) y.1 acc) (fun y=>s.length - y.1) ?_ (0,.AX,σ) ⟨by simp,[],s.length+1,EZ.nil _ _ _,by simp,by simp,by simp [BJ,hl]⟩
   rintro ⟨i,v,σ1⟩ ⟨hi,acc,n,ho,hac,hn,hs⟩ ih
   simp only at hi ho hac hn hs
   obtain ⟨n,rfl⟩:∃m,n=m+1:=⟨n - 1,by omega⟩
   by_cases hlt:i < s.length
   · obtain ⟨x,hx⟩:=Ba hlt
     rw [E9 hx,DZ] at hs
     have hw1:=BQ (show i+1≤9000000000000000000 by omega)
     have hsl:(x::s.drop (i+1)).length=s.length - i:=by simp;omega
     cases hb:Ts x.toNat with
     |true=>
      rw [hb] at hs
      (repeat' (first|refine Run.ct rfl ?_|((first|refine Run.reg mixed ?_|refine Run.AJ ?_|refine Run.Aa Bx (AM.le_refl _) ?_|refine AG.det (JY _ _) ?_)<;>try simp -implicitDefEqProofs only [BG hlt,Cz hx,hb,hw1,go_sem])|fail))
      exact ih (i+1,v,σ1) ⟨hlt,acc,n,ho,by simp only;omega,by simp only;omega,hs⟩ (by simp only;omega)
     |false=>
      rw [hb,if_neg (by simp)] at hs
      cases hc:(x==35) with
      |true=>
       rw [hc,if_pos rfl] at hs
       (repeat' (first|refine Run.ct rfl ?_|((first|refine Run.reg mixed ?_|refine Run.AJ ?_|refine Run.Aa Bx (AM.le_refl _) ?_|refine AG.det (JY _ _) ?_)<;>try simp -implicitDefEqProofs only [BG hlt,Cz hx,QW,hb,hc,go_sem])|fail))
       refine Run.Ov [0,5,6] ?_;simp -implicitDefEqProofs only [go_sem]
       refine Run.B1 ?_
       refine Run.B7 ((fun (a0:AV) (a5:AV)=>fun (j:Nat)=>put 0 a0 (put 5 a5 (put 6 (.d (.int .i64 j)) U))) _ _) (fun _=>E) (fun _=>σ1) (fun j=>i≤j∧j≤s.length∧∀q b,q < j - i→(s.drop i)[q]?=some b→(!(b==10))=true) (fun j=>s.length - j) ?_ i ⟨A7 i,hi,by intro q b hq;omega⟩
       rintro j ⟨hij,hj,hall⟩ ih2
       have hw2:=BQ (show j+1≤9000000000000000000 by omega)
       by_cases hjl:j < s.length
       · obtain ⟨z,hz⟩:=Ba hjl
         have hz2:(s.drop i)[j - i]?=some z:=by rw [BK,show i+(j - i)=j by omega];exact hz
         cases h10:(z==10) with
         |true=>
          (repeat' (first|refine Run.ct rfl ?_|((first|refine Run.reg mixed ?_|refine Run.AJ ?_|refine Run.Aa Bx (AM.le_refl _) ?_)<;>try simp -implicitDefEqProofs only [BG hjl,Cz hz,dG,h10,go_sem])|fail))
          have hk:cmt (x::s.drop (i+1))=j - i:=by
           rw [← E9 hx,cmt,En hall (by simp;omega) (fun b hb=>by rw [hz2] at hb;cases hb;simp [h10])]
           simp;omega
          have hji:j≠i:=fun e=>by
           subst e
           rw [hx] at hz;cases hz
           simp only [beq_iff_eq] at hc h10
           rw [hc] at h10;exact absurd h10 (by decide)
          rw [hk,← E9 hx,CD,show i+(j - i)=j by omega] at hs
          refine Run.Ov [0,5,6] ?_;simp -implicitDefEqProofs only [go_sem]
          exact ih (j,v,σ1) ⟨hj,acc,n,ho,by simp only;omega,by simp only;omega,hs⟩ (by simp only;omega)
         |false=>
          (repeat' (first|refine Run.ct rfl ?_|((first|refine Run.reg mixed ?_|refine Run.AJ ?_|refine Run.Aa Bx (AM.le_refl _) ?_)<;>try simp -implicitDefEqProofs only [BG hjl,Cz hz,dG,h10,hw2,go_sem])|fail))
          refine ih2 (j+1) ⟨by omega,hjl,fun q b hq hb=>?_⟩ (by omega)
          rcases Cf q (j - i) with h2|h2
          · exact hall q b h2 hb
          · have:q=j - i:=by omega
            subst this
            rw [hz2] at hb;cases hb;simp [h10]
       · have hje:j=s.length:=by omega
         have hk:cmt (x::s.drop (i+1))=j - i:=by
          rw [← E9 hx,cmt,En hall (by simp;omega) (fun b hb=>by rw [BK,show i+(j - i)=j by omega,hje] at hb;simp at hb)]
          simp;omega
         rw [hk,← E9 hx,CD,show i+(j - i)=j by omega,hje,Qe] at hs
         obtain ⟨n,rfl⟩:∃m,n=m+1:=⟨n - 1,by omega⟩
         rw [DZ] at hs
         (repeat' (first|refine Run.ct rfl ?_|((first|refine Run.reg mixed ?_|refine Run.AJ ?_|(refine L2.own ho rfl (by simp) (by simp;omega) (by decide) (fun v2 σ2 ho2 hbk=>?_))|(refine Run.Aa Bx ho2.le ?_)|refine Run.Aa Bx (AM.le_refl _) ?_)<;>try simp -implicitDefEqProofs only [E0 hjl,go_sem])|fail))
         simp -implicitDefEqProofs only [ho2.Au,ho2.plain,go_sem]
         rw [hs];simp [Hd,Tok.enc]
      |false=>
       rw [hc,if_neg (by simp)] at hs
       rcases hsc:D3 (x::s.drop (i+1)) with e|⟨k,t⟩
       · rw [hsc] at hs
         have he:=PL hsc
         have hne:(e != 0)=true:=by simp;omega
         (repeat' (first|refine Run.ct rfl ?_|((first|refine Run.reg mixed ?_|refine Run.AJ ?_|(refine Run.Aa Bx ho.le ?_)|refine Run.Aa Bx (AM.le_refl _) ?_|refine AG.det (JY _ _) ?_|refine AG.det (Tn _ _ _ (by omega) hlt) ?_)<;>try simp -implicitDefEqProofs only [BG hlt,Cz hx,QW,hb,hc,E9 hx,hsc,gB,pI,hne,ho.BS,AU,go_sem])|fail))
         rw [hs];rfl
       · rw [hsc] at hs
         have hsn:=PN hsc
         rw [hsl] at hsn
         (repeat' (first|refine Run.ct rfl ?_|((first|refine Run.reg mixed ?_|refine Run.AJ ?_|(refine L2.own ho rfl (by simp) (by simp;omega) (by decide) (fun v2 σ2 ho2 hbk=>?_))|refine Run.Aa Bx (AM.le_refl _) ?_|refine AG.det (JY _ _) ?_|refine AG.det (Tn _ _ _ (by omega) hlt) ?_)<;>try simp -implicitDefEqProofs only [BG hlt,Cz hx,QW,hb,hc,E9 hx,hsc,gB,pI,ho.BS,AU,wrap_add (show i+t.length≤9000000000000000000 by omega),go_sem])|(refine ⟨fun h=>?_,fun h=>?_⟩<;>first|(cases h;done)|try simp only [h])|fail))
         refine ih (i+t.length,v2,σ2) ⟨?_,acc++[⟨k,t,i⟩],n,?_,?_,?_,?_⟩ ?_
         · simp only;omega
         · simpa [Tok.enc] using ho2
         · simp only [AA,List.length_singleton];omega
         · simp only;omega
         · rw [hs];simp only;rw [← E9 hx,CD]
         · simp only;omega
   · have hge:i=s.length:=by omega
     rw [hge,Qe,DZ] at hs
     (repeat' (first|refine Run.ct rfl ?_|((first|refine Run.reg mixed ?_|refine Run.AJ ?_|(refine L2.own ho rfl (by simp) (by simp;omega) (by decide) (fun v2 σ2 ho2 hbk=>?_))|(refine Run.Aa Bx ho2.le ?_)|refine Run.Aa Bx (AM.le_refl _) ?_)<;>try simp -implicitDefEqProofs only [E0 hlt,go_sem])|fail))
     simp -implicitDefEqProofs only [ho2.Au,ho2.plain,go_sem]
     rw [hs];simp [Hd,Tok.enc]
end Go.Ab
