/- Bytes and keywords. Keywords and numbers of the reference. Signs, numbers and prefixes. Prefixes and tokens. One token. Texts split into tokens. Conditions: none. -/
import Derived.Test.YtifplkldbbcldaaGreatDoorXLfP
set_option linter.unusedSimpArgs false
set_option linter.unusedVariables false
set_option maxRecDepth 4000
set_option maxHeartbeats 8000000
open Bool renaming or_false→Mt,false_or→Ms,or_true→Oi,eq_iff_iff→Dt,false_eq_true→AU,and_true→BH,true_and→BK,and_false→Dd,false_and→Ea
open List renaming length_map→AE,drop_length→RJ,take_succ_cons→Ck,take_zero→G2,takeWhile_cons→F9,getElem?_drop→BO,drop_drop→CN,length_append→AA,length_singleton→Qr
open Nat renaming lt_or_ge→Co,le_refl→A8
namespace Go.Ab
open Go.Proofs
def Mg (n:Int):Bool:=decide (97≤n)&&decide (n≤122)
def Kk (n:Int):Bool:=decide (65≤n)&&decide (n≤90)
def Er (n:Int):Bool:=decide (48≤n)&&decide (n≤57)
def GZ (n:Int):Bool:=Mg n||Kk n||Er n||(n==95)
def U1 (n:Int):Bool:=(n==9)||(n==10)||(n==13)||(n==32)
theorem TD (n:Int) (σ:AN):AQ Tryz.prog 112 [.d (.int .u8 n)] σ (fun v σ'=>v= .d (.bool (Mg n))∧σ'=σ):=by
 refine aT (by simp) ?_
 rw [Ax]
 (repeat' (first|refine Run.ct rfl ?_|((first|refine Run.reg mixed ?_|refine Run.AJ ?_|refine Run.A9 UM (AN.le_refl _) ?_|(refine GL rfl (fun h=>?_) (fun h=>?_)<;>try (cases h;done)))<;>try simp -implicitDefEqProofs only [go_sem])|fail))
 all_goals (simp_all [Mg];try omega)
theorem TF (n:Int) (σ:AN):AQ Tryz.prog 113 [.d (.int .u8 n)] σ (fun v σ'=>v= .d (.bool (Kk n))∧σ'=σ):=by
 refine aV (by simp) ?_
 rw [Ax]
 (repeat' (first|refine Run.ct rfl ?_|((first|refine Run.reg mixed ?_|refine Run.AJ ?_|refine Run.A9 UN (AN.le_refl _) ?_|(refine GL rfl (fun h=>?_) (fun h=>?_)<;>try (cases h;done)))<;>try simp -implicitDefEqProofs only [go_sem])|fail))
 all_goals (simp_all [Kk];try omega)
theorem Na (n:Int) (σ:AN):AQ Tryz.prog 117 [.d (.int .u8 n)] σ (fun v σ'=>v= .d (.bool (Er n))∧σ'=σ):=by
 refine aS (by simp) ?_
 rw [Ax]
 (repeat' (first|refine Run.ct rfl ?_|((first|refine Run.reg mixed ?_|refine Run.AJ ?_|refine Run.A9 UL (AN.le_refl _) ?_|(refine GL rfl (fun h=>?_) (fun h=>?_)<;>try (cases h;done)))<;>try simp -implicitDefEqProofs only [go_sem])|fail))
 all_goals (simp_all [Er];try omega)
theorem Ir (n:Int) (σ:AN):AQ Tryz.prog 69 [.d (.int .u8 n)] σ (fun v σ'=>v= .d (.bool (Mg n))∧σ'=σ):=by
 refine k6 (by simp) ?_
 rw [Ax]
 (repeat' (first|refine Run.ct rfl ?_|((first|refine Run.reg mixed ?_|refine Run.AJ ?_|refine Run.A9 Ye (AN.le_refl _) ?_|(refine GL rfl (fun h=>?_) (fun h=>?_)<;>try (cases h;done)))<;>try simp -implicitDefEqProofs only [go_sem])|fail))
 all_goals (simp_all [Mg];try omega)
theorem It (n:Int) (σ:AN):AQ Tryz.prog 70 [.d (.int .u8 n)] σ (fun v σ'=>v= .d (.bool (Kk n))∧σ'=σ):=by
 refine k7 (by simp) ?_
 rw [Ax]
 (repeat' (first|refine Run.ct rfl ?_|((first|refine Run.reg mixed ?_|refine Run.AJ ?_|refine Run.A9 Yf (AN.le_refl _) ?_|(refine GL rfl (fun h=>?_) (fun h=>?_)<;>try (cases h;done)))<;>try simp -implicitDefEqProofs only [go_sem])|fail))
 all_goals (simp_all [Kk];try omega)
theorem HY (n:Int) (σ:AN):AQ Tryz.prog 71 [.d (.int .u8 n)] σ (fun v σ'=>v= .d (.bool (Er n))∧σ'=σ):=by
 refine k5 (by simp) ?_
 rw [Ax]
 (repeat' (first|refine Run.ct rfl ?_|((first|refine Run.reg mixed ?_|refine Run.AJ ?_|refine Run.A9 Yd (AN.le_refl _) ?_|(refine GL rfl (fun h=>?_) (fun h=>?_)<;>try (cases h;done)))<;>try simp -implicitDefEqProofs only [go_sem])|fail))
 all_goals (simp_all [Er];try omega)
theorem Jg (n:Int) (σ:AN):AQ Tryz.prog 58 [.d (.int .u8 n)] σ (fun v σ'=>v= .d (.bool (U1 n))∧σ'=σ):=by
 refine aR (by simp) ?_
 rw [Ax]
 (repeat' (first|refine Run.ct rfl ?_|((first|refine Run.reg mixed ?_|refine Run.AJ ?_|refine Run.A9 UK (AN.le_refl _) ?_|(refine GL rfl (fun h=>?_) (fun h=>?_)<;>try (cases h;done)))<;>try simp -implicitDefEqProofs only [go_sem])|fail))
 all_goals simp_all [U1]
theorem Xg (n:Int) (σ:AN):AQ Tryz.prog 115 [.d (.int .u8 n)] σ (fun v σ'=>v= .d (.bool (GZ n))∧σ'=σ):=by
 refine Yq (by simp) ?_
 rw [Ax]
 (repeat' (first|refine Run.ct rfl ?_|((first|refine Run.reg mixed ?_|refine Run.AJ ?_|refine Run.A9 SM (AN.le_refl _) ?_|refine AI.det (TD _ _) ?_|refine AI.det (TF _ _) ?_|refine AI.det (Na _ _) ?_|(refine GL rfl (fun h=>?_) (fun h=>?_)<;>try (cases h;done)))<;>try simp -implicitDefEqProofs only [go_sem])|fail))
 all_goals simp_all [GZ]
def FT:List Str:=[[97,114,114,97,121],[98,111,111,108],[99,97,116,99,104],[100,97,116,97],[101,108,115,101],[101,110,100],[102,97,108,115,101],[102,110],[102,117,110],[103,101,116],[105,102],[105,110],[105,110,116],[108,101,110],[108,101,116],[109,97,116,99,104],[110,101,119],[114,97,105,115,101],[114,101,97,100],[114,101,102],[115,101,116],[116,104,101,110],[116,105,99,107],[116,114,117,101],[116,114,121],[117,110,105,116],[119,105,116,104],[119,114,105,116,101]]
def Sc (s:Str):Bool:=FT.any (s==·)
set_option maxHeartbeats 4000000 in
theorem Wf (s:Str) (σ:AN):AQ Tryz.prog 116 [.d (.str s)] σ (fun v σ'=>v= .d (.bool (Sc s))∧σ'=σ):=by
 refine XZ (by simp) ?_
 rw [Ax]
 (repeat' (first|refine Run.ct rfl ?_|((first|refine Run.reg mixed ?_|refine Run.AJ ?_|refine Run.A9 RA (AN.le_refl _) ?_)<;>try simp -implicitDefEqProofs only [go_sem])|(refine ⟨fun h=>?_,fun h=>?_⟩<;>first|(cases h;done)|try simp only [h])|fail))
 all_goals simp only [Sc,FT,List.any_cons,List.any_nil,Mt,Ms,Bool.true_or,Oi,and_self, *]
end Go.Ab
namespace Go.Ab
open Go.Proofs
theorem aY (s:Str) (σ:AN):AQ Tryz.prog 72 [.d (.str s)] σ (fun v σ'=>v= .d (.bool (Sc s))∧σ'=σ):=by
 refine dX (by simp) ?_
 rw [Ax]
 (repeat (first
   |refine Run.seq ?_
   |refine Run.skip ?_
   |refine Run.block ?_
   |refine Run.blk ?_
   |refine Run.scope ?_
   |refine Run.scp ?_
   |(refine Run.exit rfl ?_)
   |(refine Run.reg mixed ?_;simp -implicitDefEqProofs only [go_sem])
   |(refine Run.AJ ?_;simp -implicitDefEqProofs only [go_sem])))
 refine Run.B3 ?_
 refine Run.B6 ((fun (a0:AV)=>fun (i:Nat)=>put 0 a0 (put 3 (.d (.sl (FT.map BM))) (put 4 (.d (.int .i64 i)) U))) _) (fun _=>E) (fun _=>σ) (fun i=>i≤FT.length∧Sc s=(FT.drop i).any (s==·)) (fun i=>FT.length - i) ?_ 0 ⟨by omega,rfl⟩
 rintro i ⟨hi,hs⟩ ih
 by_cases hlt:i < FT.length
 · obtain ⟨x,hx⟩:=Bu hlt
   have he:=Bi (enc:=BM) hx
   rw [El hx,List.any_cons] at hs
   (repeat' (first|refine Run.ct rfl ?_|((first|refine Run.reg mixed ?_|refine Run.AJ ?_|refine Run.A9 QI (AN.le_refl _) ?_)<;>try simp -implicitDefEqProofs only [AE,BQ hlt,he,BM,BV (show i+1≤9000000000000000000 by have:FT.length=28:=rfl;omega),go_sem])|(refine ⟨fun h=>?_,fun h=>?_⟩<;>first|(cases h;done)|try simp only [h])|fail))
   · rw [hs];simp_all
   · refine ih (i+1) ⟨hlt,?_⟩ (by omega)
     rw [hs,show (s==x)=(x==s) from BEq.comm,h,Ms]
 · have hge:i=FT.length:=by omega
   (repeat' (first|refine Run.ct rfl ?_|((first|refine Run.reg mixed ?_|refine Run.AJ ?_|refine Run.A9 QI (AN.le_refl _) ?_)<;>try simp -implicitDefEqProofs only [AE,DA hlt,go_sem])|fail))
   rw [hs,hge];rfl
def FL:Str→Int→Option Int
 |[],v=>some v
 |b::r,v=>if v * 10+IntKind.u8.wrap ((b.toNat:Int) - 48)>1000000 then none else FL r (v * 10+IntKind.u8.wrap ((b.toNat:Int) - 48))
theorem AAN (a:Int):0≤IntKind.u8.wrap a∧IntKind.u8.wrap a≤255:=by
 have h1:IntKind.u8.wrap a=a % 256:=by rfl
 rw [h1];omega
theorem iT (s:Str) (σ:AN) (hl:s.length≤1000000000):AQ Tryz.prog 73 [.d (.str s)] σ (fun v σ'=>v=(match FL s 0 with|some n=>.tup [.d (.int .i64 n),.d (.bool true)]|none=>.tup [.d (.int .i64 0),.d (.bool false)])∧σ'=σ):=by
 refine kZ (by simp) ?_
 rw [Ax]
 (repeat (first
   |refine Run.seq ?_
   |refine Run.skip ?_
   |refine Run.block ?_
   |refine Run.blk ?_
   |refine Run.scope ?_
   |refine Run.scp ?_
   |(refine Run.exit rfl ?_)
   |(refine Run.reg mixed ?_;simp -implicitDefEqProofs only [go_sem])
   |(refine Run.AJ ?_;simp -implicitDefEqProofs only [go_sem])))
 refine Run.B3 ?_
 refine Run.B6 ((fun (a0:AV)=>fun (y:Nat×Int)=>put 0 a0 (put 4 (.d (.int .i64 y.2)) (put 5 (.d (.int .i64 y.1)) U))) _) (fun _=>E) (fun _=>σ) (fun y=>y.1≤s.length∧0≤y.2∧y.2≤1000000∧FL s 0=FL (s.drop y.1) y.2) (fun y=>s.length - y.1) ?_ (0,0) ⟨by simp,by simp,by simp,rfl⟩
 rintro ⟨i,v⟩ ⟨hi,h0,h1,hs⟩ ih
 simp only at hi h0 h1 hs
 by_cases hlt:i < s.length
 · obtain ⟨x,hx⟩:=Bu hlt
   rw [El hx,FL] at hs
   have hu:=AAN ((x.toNat:Int) - 48)
   have e1:IntKind.i64.wrap (v * 10)=v * 10:=Av (by omega) (by omega)
   have e2:IntKind.i64.wrap (IntKind.u8.wrap ((x.toNat:Int) - 48))=IntKind.u8.wrap ((x.toNat:Int) - 48):=Av (by omega) (by omega)
   have e3:IntKind.i64.wrap (v * 10+IntKind.u8.wrap ((x.toNat:Int) - 48))=v * 10+IntKind.u8.wrap ((x.toNat:Int) - 48):=Av (by omega) (by omega)
   (repeat' (first|refine Run.ct rfl ?_|((first|refine Run.reg mixed ?_|refine Run.AJ ?_|refine Run.A9 U9 (AN.le_refl _) ?_)<;>try simp -implicitDefEqProofs only [BQ hlt,DJ hx,e1,e2,e3,BV (show i+1≤9000000000000000000 by omega),go_sem])|(refine ⟨fun h=>?_,fun h=>?_⟩<;>first|(cases h;done)|try simp only [h])|fail))
   · have:v * 10+IntKind.u8.wrap ((x.toNat:Int) - 48)>1000000:=by simpa using h
     rw [hs,if_pos this]
   · have:¬v * 10+IntKind.u8.wrap ((x.toNat:Int) - 48)>1000000:=by simpa using h
     rw [if_neg this] at hs
     exact ih (i+1,_) ⟨hlt,by simp only;omega,by simp only;omega,hs⟩ (by simp only;omega)
 · have hge:i=s.length:=by omega
   (repeat' (first|refine Run.ct rfl ?_|((first|refine Run.reg mixed ?_|refine Run.AJ ?_|refine Run.A9 U9 (AN.le_refl _) ?_)<;>try simp -implicitDefEqProofs only [DA hlt,go_sem])|fail))
   rw [hs,hge,RJ,FL]
end Go.Ab
namespace Go.Ab
open Go.Proofs
def Zc:Str:=[40,41,44,61,124,43,45,42,47,37,60,59,95]
def bD (b:UInt8):Nat:=if Zc.any (b==·) then 1 else 0
def bE (b c:UInt8):Bool:=([b,c]==[45,62])||([b,c]==[60,61])||([b,c]==[61,61])
def GK:Str→Nat
 |[]=>0
 |[b]=>bD b
 |b::c::_=>if bE b c then 2 else bD b
theorem AAG:decide ((2:Int)≤((1:Nat):Int))=false:=rfl
theorem AAH (n:Nat):decide ((2:Int)≤((n+1+1:Nat):Int))=true:=by simp;omega
theorem ADG (b c:UInt8):([b]==[c])=(b==c):=by
 rw [Dt];simp
set_option maxHeartbeats 4000000 in
theorem bH (s:Str) (σ:AN) (hs:s≠[]):AQ Tryz.prog 119 [.d (.str s)] σ (fun v σ'=>v= .d (.str (s.take (GK s)))∧σ'=σ):=by
 match s,hs with
 |[b],_=>
  refine V6 (by simp) ?_
  rw [Ax]
  (repeat' (first|refine Run.ct rfl ?_|((first|refine Run.reg mixed ?_|refine Run.AJ ?_|refine Run.A9 QJ (AN.le_refl _) ?_)<;>try simp -implicitDefEqProofs only [AAG,AAL,ADG,go_sem])|(refine ⟨fun h=>?_,fun h=>?_⟩<;>first|(cases h;done)|try simp only [h])|fail))
  all_goals simp only [GK,bD,Zc,List.any_cons,List.any_nil,Mt,Ms,Bool.true_or,Oi,reduceIte,Ck,G2,AU,and_self, *]
 |b::c::r,_=>
  refine V6 (by simp) ?_
  rw [Ax]
  (repeat' (first|refine Run.ct rfl ?_|((first|refine Run.reg mixed ?_|refine Run.AJ ?_|refine Run.A9 QJ (AN.le_refl _) ?_)<;>try simp -implicitDefEqProofs only [AAH,AAL,AAM,ADG,go_sem])|(refine ⟨fun h=>?_,fun h=>?_⟩<;>first|(cases h;done)|try simp only [h])|fail))
  all_goals simp only [GK,bE,bD,Zc,List.any_cons,List.any_nil,Mt,Ms,Bool.true_or,Oi,reduceIte,Ck,G2,AU,and_self, *]
theorem Zt (s:Str) (σ:AN) (hl:s.length≤1000000000):AQ Tryz.prog 118 [.d (.str s)] σ (fun v σ'=>v= .d (.bool (FL s 0).isSome)∧σ'=σ):=by
 refine aU (by simp) ?_
 rw [Ax]
 (repeat (first
   |refine Run.seq ?_
   |refine Run.skip ?_
   |refine Run.block ?_
   |refine Run.blk ?_
   |refine Run.scope ?_
   |refine Run.scp ?_
   |(refine Run.exit rfl ?_)
   |(refine Run.reg mixed ?_;simp -implicitDefEqProofs only [go_sem])
   |(refine Run.AJ ?_;simp -implicitDefEqProofs only [go_sem])))
 refine Run.B3 ?_
 refine Run.B6 ((fun (a0:AV) (a6:AV)=>fun (y:Nat×Int)=>put 0 a0 (put 3 (.d (.int .i64 y.2)) (put 6 a6 (put 7 (.d (.int .i64 y.1)) U)))) _ _) (fun _=>E) (fun _=>σ) (fun y=>y.1≤s.length∧0≤y.2∧y.2≤1000000∧FL s 0=FL (s.drop y.1) y.2) (fun y=>s.length - y.1) ?_ (0,0) ⟨by simp,by simp,by simp,rfl⟩
 rintro ⟨i,v⟩ ⟨hi,h0,h1,hs⟩ ih
 simp only at hi h0 h1 hs
 by_cases hlt:i < s.length
 · obtain ⟨x,hx⟩:=Bu hlt
   rw [El hx,FL] at hs
   have hu:=AAN ((x.toNat:Int) - 48)
   have e1:IntKind.i64.wrap (v * 10)=v * 10:=Av (by omega) (by omega)
   have e2:IntKind.i64.wrap (IntKind.u8.wrap ((x.toNat:Int) - 48))=IntKind.u8.wrap ((x.toNat:Int) - 48):=Av (by omega) (by omega)
   have e3:IntKind.i64.wrap (v * 10+IntKind.u8.wrap ((x.toNat:Int) - 48))=v * 10+IntKind.u8.wrap ((x.toNat:Int) - 48):=Av (by omega) (by omega)
   (repeat' (first|refine Run.ct rfl ?_|((first|refine Run.reg mixed ?_|refine Run.AJ ?_|refine Run.A9 OX (AN.le_refl _) ?_)<;>try simp -implicitDefEqProofs only [BQ hlt,DJ hx,e1,e2,e3,BV (show i+1≤9000000000000000000 by omega),go_sem])|(refine ⟨fun h=>?_,fun h=>?_⟩<;>first|(cases h;done)|try simp only [h])|fail))
   · have:v * 10+IntKind.u8.wrap ((x.toNat:Int) - 48)>1000000:=by simpa using h
     rw [hs,if_pos this];rfl
   · have:¬v * 10+IntKind.u8.wrap ((x.toNat:Int) - 48)>1000000:=by simpa using h
     rw [if_neg this] at hs
     exact ih (i+1,_) ⟨hlt,by simp only;omega,by simp only;omega,hs⟩ (by simp only;omega)
 · have hge:i=s.length:=by omega
   (repeat' (first|refine Run.ct rfl ?_|((first|refine Run.reg mixed ?_|refine Run.AJ ?_|refine Run.A9 OX (AN.le_refl _) ?_)<;>try simp -implicitDefEqProofs only [DA hlt,go_sem])|fail))
   rw [hs,hge,RJ,FL];rfl
end Go.Ab
namespace Go.Ab
open Go.Proofs
def CT (c:Int→Bool) (b:UInt8):Bool:=c b.toNat
theorem FB {c:UInt8→Bool} {s:Str} {i:Nat} (h:∀j b,j < i→s[j]?=some b→c b=true) (hi:i≤s.length) (he:∀b,s[i]?=some b→c b=false):s.takeWhile c=s.take i:=by
 induction i generalizing s with
 |zero=>
  cases s with
  |nil=>rfl
  |cons b r=>simp [he b rfl]
 |succ i ih=>
  cases s with
  |nil=>simp at hi
  |cons b r=>
   have hb:c b=true:=h 0 b (by omega) rfl
   rw [F9,hb,if_pos rfl,Ck,ih (fun j b hj hb=>h (j+1) b (by omega) hb) (by simpa using hi) (fun b hb=>he b hb)]
theorem RG {fid:FuncId} (hb:Aw Tryz.prog fid=true) (c:Int→Bool) (hc:∀n σ,AQ Tryz.prog fid [.d (.int .u8 n)] σ (fun v σ'=>v= .d (.bool (c n))∧σ'=σ)) (s:Str) (σ:AN) (hl:s.length≤1000000000):
 AQ Tryz.prog 114 [.d (.str s),.fn fid [] []] σ (fun v σ'=>v= .d (.str (s.takeWhile (CT c)))∧σ'=σ):=by
 refine Yp (by simp) ?_
 rw [BP]
 (repeat (first
   |refine Run.seq ?_
   |refine Run.skip ?_
   |refine Run.block ?_
   |refine Run.blk ?_
   |refine Run.scope ?_
   |refine Run.scp ?_
   |(refine Run.exit rfl ?_)
   |(refine Run.reg mixed ?_;simp -implicitDefEqProofs only [go_sem])
   |(refine Run.AJ ?_;simp -implicitDefEqProofs only [go_sem])))
 refine Run.B3 ?_
 refine Run.B6 ((fun (a0:AV) (a1:AV)=>fun (i:Nat)=>put 0 a0 (put 1 a1 (put 5 (.d (.int .i64 i)) U))) _ _) (fun _=>E) (fun _=>σ) (fun i=>i≤s.length∧∀j b,j < i→s[j]?=some b→CT c b=true) (fun i=>s.length - i) ?_ 0 ⟨by simp,by simp⟩
 rintro i ⟨hi,hs⟩ ih
 by_cases hlt:i < s.length
 · obtain ⟨x,hx⟩:=Bu hlt
   (repeat' (first|refine Run.ct rfl ?_|((first|refine Run.reg mixed ?_|refine Run.AJ ?_|(refine ⟨fid,[],[],rfl,hb,AI.det (hc _ _) ?_⟩)|refine Run.A9 NO (AN.le_refl _) ?_)<;>try simp -implicitDefEqProofs only [BQ hlt,DJ hx,fI hi,BV (show i+1≤9000000000000000000 by omega),go_sem])|(refine ⟨fun h=>?_,fun h=>?_⟩<;>first|(cases h;done)|try simp only [h])|fail))
   · refine ih (i+1) ⟨hlt,fun j b hj hb=>?_⟩ (by omega)
     rcases Co j i with h2|h2
     · exact hs j b h2 hb
     · have:j=i:=by omega
       subst this
       rw [hx] at hb;cases hb;exact h
   · rw [FB hs hi (fun b hb=>by rw [hx] at hb;cases hb;exact h)]
 · have hge:i=s.length:=by omega
   (repeat' (first|refine Run.ct rfl ?_|((first|refine Run.reg mixed ?_|refine Run.AJ ?_|refine Run.A9 NO (AN.le_refl _) ?_)<;>try simp -implicitDefEqProofs only [DA hlt,fI hi,go_sem])|fail))
   rw [FB hs hi (fun b hb=>by rw [hge] at hb;simp at hb)]
theorem mG (s:Str) (σ:AN) (hs:s≠[]):AQ Tryz.prog 74 [.d (.str s)] σ (fun v σ'=>v= .d (.int .i64 (GK s))∧σ'=σ):=by
 have hloop:∀(b:UInt8) (r:Str),(GK (b::r)=bD b)→Run Mr (fun v σ'=>v= .d (.int .i64 (GK (b::r)))∧σ'=σ) [.again VM,.blk 0,.code (.seq (.reg [⟨some 2,.mv (.c (.d (.int .i64 0))),none⟩] [2]) .ret)] (put 0 (.d (.str (b::r))) (put 3 (.d (.str Zc)) (put 4 (.d (.int .i64 0)) U))) E σ:=by
  intro b r hbr
  refine Run.B6 ((fun (a0:AV) (a3:AV)=>fun (i:Nat)=>put 0 a0 (put 3 a3 (put 4 (.d (.int .i64 i)) U))) _ _) (fun _=>E) (fun _=>σ) (fun i=>i≤Zc.length∧Zc.any (b==·)=(Zc.drop i).any (b==·)) (fun i=>Zc.length - i) ?_ 0 ⟨by simp,rfl⟩
  rintro i ⟨hi,hs⟩ ih
  have hn:Zc.length=13:=rfl
  have h0:(b::r)[0]?=some b:=rfl
  by_cases hlt:i < Zc.length
  · obtain ⟨x,hx⟩:=Bu hlt
    rw [El hx,List.any_cons] at hs
    have hz:=DJ h0 .i64
    rw [show ((0:Nat):Int)=0 from rfl] at hz
    (repeat' (first|refine Run.ct rfl ?_|((first|refine Run.reg mixed ?_|refine Run.AJ ?_|refine Run.A9 PA (AN.le_refl _) ?_)<;>try simp -implicitDefEqProofs only [BQ hlt,DJ hx,hz,zL,BV (show i+1≤9000000000000000000 by omega),go_sem])|(refine ⟨fun h=>?_,fun h=>?_⟩<;>first|(cases h;done)|try simp only [h])|fail))
    · rw [hbr,bD,hs,h];rfl
    · exact ih (i+1) ⟨hlt,by rw [hs,h];rfl⟩ (by omega)
  · have hge:i=Zc.length:=by omega
    (repeat' (first|refine Run.ct rfl ?_|((first|refine Run.reg mixed ?_|refine Run.AJ ?_|refine Run.A9 PA (AN.le_refl _) ?_)<;>try simp -implicitDefEqProofs only [DA hlt,go_sem])|fail))
    rw [hbr,bD,hs,hge];rfl
 match s,hs with
 |[b],_=>
  refine cD (by simp) ?_
  rw [Ax]
  (repeat' (first|refine Run.ct rfl ?_|((first|refine Run.reg mixed ?_|refine Run.AJ ?_|refine Run.A9 PA (AN.le_refl _) ?_)<;>try simp -implicitDefEqProofs only [AAG,go_sem])|fail))
  exact Run.B3 (hloop b [] rfl)
 |b::c::r,_=>
  refine cD (by simp) ?_
  rw [Ax]
  (repeat' (first|refine Run.ct rfl ?_|((first|refine Run.reg mixed ?_|refine Run.AJ ?_|refine Run.A9 PA (AN.le_refl _) ?_|(refine GL rfl (fun h=>?_) (fun h=>?_)<;>try (cases h;done)))<;>try simp -implicitDefEqProofs only [AAH,AAM,go_sem])|(refine ⟨fun h=>?_,fun h=>?_⟩<;>first|(cases h;done)|try simp only [h])|fail))
  all_goals (first|exact Run.B3 (hloop b (c::r) (by simp only [GK,bE, *];rfl))|(simp only [GK,bE, *];rfl))
end Go.Ab
namespace Go.Ab
open Go.Proofs
def De:Str→Except Int (Int×Str)
 |[]=>.error 2
 |b::r=>
  if Mg b.toNat||Kk b.toNat then
   if decide (((b::r).takeWhile (CT GZ)).length>24) then .error 9
                                  else if Kk b.toNat then .ok (2,(b::r).takeWhile (CT GZ))
                                  else if Sc ((b::r).takeWhile (CT GZ)) then .ok (4,(b::r).takeWhile (CT GZ))
                                  else .ok (1,(b::r).takeWhile (CT GZ))
                                  else if Er b.toNat then
   if b==48&&decide (((b::r).takeWhile (CT Er)).length>1) then .error 2
                                         else if (FL ((b::r).takeWhile (CT Er)) 0).isSome then .ok (3,(b::r).takeWhile (CT Er))
                                         else .error 9
                                         else if (b::r).take (GK (b::r))==[] then .error 2
                                         else .ok (5,(b::r).take (GK (b::r)))
def r7 (k:Int) (t:Str) (p:Int):AV:= .agg [.d (.int .i64 k),.d (.str t),.d (.int .i64 p)]
def jI (p:Int):Except Int (Int×Str)→AV
 | .error e=>.tup [r7 0 [] 0,.d (.int .i64 e)]
 | .ok (k,t)=>.tup [r7 k t p,.d (.int .i64 0)]
theorem Ep {α:Type} (p:α→Bool) (l:List α):(l.takeWhile p).length≤l.length:=(List.takeWhile_prefix p).length_le
theorem wQ (b:UInt8):((b.toNat:Int)==48)=(b==48):=zL b 48
theorem ADQ (n:Nat):decide ((24:Int) < (n:Int))=decide (n>24):=decide_eq_decide.2 (by omega)
theorem gt1 (n:Nat):decide ((1:Int) < (n:Int))=decide (n>1):=decide_eq_decide.2 (by omega)
theorem qD:Aw Tryz.prog 115=true:=by kernel_rfl
theorem tV:Aw Tryz.prog 117=true:=by kernel_rfl
theorem UW (src:Str) (i:Nat) (σ:AN) (hl:src.length≤1000000000) (hi:i < src.length):
 AQ Tryz.prog 59 [.d (.str src),.d (.int .i64 i)] σ (fun v σ'=>v=jI i (De (src.drop i))∧σ'=σ):=by
 obtain ⟨b,hb⟩:=Bu hi
 have hd:=El hb
 rw [hd]
 have hld:(src.drop i).length≤1000000000:=by simp;omega
 rw [hd] at hld
 have hw1:=Ep (CT GZ) (b::src.drop (i+1))
 have hw2:=Ep (CT Er) (b::src.drop (i+1))
 have hs1:Sz (.d (.str src)) (some (.d (.int .i64 (i:Int)))) none=some (.d (.str (b::src.drop (i+1)))):=by rw [wG (by omega),hd]
 refine dY (by simp) ?_
 rw [BP]
 generalize src.drop (i+1)=r at *
 (repeat' (first|refine Run.ct rfl ?_|((first|refine Run.reg mixed ?_|refine Run.AJ ?_|refine Run.A9 V3 (AN.le_refl _) ?_|refine AI.det (TD _ _) ?_|refine AI.det (TF _ _) ?_|refine AI.det (Na _ _) ?_|refine AI.det (Wf _ _) ?_|refine AI.det (Zt _ _ (by omega)) ?_|refine AI.det (bH _ _ (by simp)) ?_|refine AI.det (RG (c:=GZ) qD Xg _ _ hld) ?_|refine AI.det (RG (c:=Er) tV Na _ _ hld) ?_|(refine GL rfl (fun h=>?_) (fun h=>?_)<;>try (cases h;done)))<;>try simp -implicitDefEqProofs only [DJ hb,hs1,wQ,ADQ,gt1,go_sem])|(refine ⟨fun h=>?_,fun h=>?_⟩<;>first|(cases h;done)|try simp only [h])|fail))
 all_goals (clear hw1 hw2 hs1 hd hld;first|(simp only [De,jI,r7, *,Oi,Bool.true_or,Mt,Ms,BH,BK,Dd,Ea,AU,reduceIte];done)|simp_all [De,jI,r7])
end Go.Ab
namespace Go.Ab
open Go.Proofs
structure Tok where
 kind:Int
 text:Str
 pos:Nat
def Tok.enc (t:Tok):List DV:=[.int .i64 t.kind,.str t.text,.int .i64 t.pos]
def cmt (s:Str):Nat:=(s.takeWhile (fun c=>!(c==10))).length
def D9:Nat→Str→Nat→List Tok→List Tok×Nat×Int
 |0,_,_,_=>([],0,0)
 |n+1,rest,i,acc=>match rest with
  |[]=>(acc++[⟨6,[],i⟩],0,0)
  |b::r=>
   if U1 b.toNat then D9 n r (i+1) acc
                               else if b==35 then D9 n ((b::r).drop (cmt (b::r))) (i+cmt (b::r)) acc
                               else match De (b::r) with
    | .error e=>([],i,e)
    | .ok (k,t)=>D9 n ((b::r).drop t.length) (i+t.length) (acc++[⟨k,t,i⟩])
def BN (s:Str):List Tok×Nat×Int:=if s.length>16384 then ([],0,9) else D9 (s.length+1) s 0 []
def Hq (r:List Tok×Nat×Int):AV:= .tup [.d (.sl (r.1.map Tok.enc)),.d (.int .i64 r.2.1),.d (.int .i64 r.2.2)]
theorem Qn (b:UInt8):((b.toNat:Int)==35)=(b==35):=zL b 35
theorem fM (b:UInt8):((b.toNat:Int)==10)=(b==10):=zL b 10
theorem tT (n:Nat):decide ((16384:Int) < (n:Int))=decide (n>16384):=decide_eq_decide.2 (by omega)
theorem Pe {s:Str} {k:Int} {t:Str} (h:De s= .ok (k,t)):1≤t.length∧t.length≤s.length:=by
 match s with
 |[]=>simp [De] at h
 |b::r=>
  have h1:=Ep (CT GZ) (b::r)
  have h2:=Ep (CT Er) (b::r)
  simp only [De] at h
  split at h
  · rename_i hlu
    have hw:CT GZ b=true:=by
     simp only [CT,GZ];rw [hlu];rfl
    have h3:1≤((b::r).takeWhile (CT GZ)).length:=by simp [hw]
    split at h
    · cases h
    · split at h
      · cases h;exact ⟨h3,h1⟩
      · split at h<;>(cases h;exact ⟨h3,h1⟩)
  · split at h
    · rename_i hdg
      have h3:1≤((b::r).takeWhile (CT Er)).length:=by simp [CT,hdg]
      split at h
      · cases h
      · split at h<;>cases h
        exact ⟨h3,h2⟩
    · split at h
      · cases h
      · rename_i hne
        cases h
        refine ⟨?_,List.length_take_le' _ _⟩
        cases he:(b::r).take (GK (b::r)) with
        |nil=>rw [he] at hne;simp at hne
        |cons=>simp
theorem Pd {s:Str} {e:Int} (h:De s= .error e):e=2∨e=9:=by
 match s with
 |[]=>simp only [De,Except.error.injEq] at h;omega
 |b::r=>
  simp only [De] at h
  repeat' split at h
  all_goals first|(cases h;simp;done)|cases h
theorem TC (s:Str) (σ:AN):AQ Tryz.prog 21 [.d (.str s)] σ (fun v σ'=>v=Hq (BN s)∧σ'=σ):=by
 refine aQ (by simp) ?_
 rw [Ax]
 (repeat' (first|refine Run.ct rfl ?_|((first|refine Run.reg mixed ?_|refine Run.AJ ?_|refine Run.A9 CG (AN.le_refl _) ?_)<;>try simp -implicitDefEqProofs only [tT,go_sem])|(refine ⟨fun h=>?_,fun h=>?_⟩<;>first|(cases h;done)|try simp only [h])|fail))
 · have:s.length>16384:=by simpa using h
   simp [Hq,BN,this]
 · have hl:¬s.length>16384:=by simpa using h
   refine Run.B3 ?_
   refine Run.B6 ((fun (a0:AV)=>fun (y:Nat×AV×AN)=>put 0 a0 (put 5 (y.2.1) (put 6 (.d (.int .i64 y.1)) U))) _) (fun _=>E) (fun y=>y.2.2) (fun y=>y.1≤s.length∧∃acc n,D8 σ 38 3 (acc.map Tok.enc) y.2.1 y.2.2∧acc.length≤y.1∧s.length - y.1 < n∧BN s=D9 n (s.drop y.1) y.1 acc) (fun y=>s.length - y.1) ?_ (0,.AX,σ) ⟨by simp,[],s.length+1,D8.nil _ _ _,by simp,by simp,by simp [BN,hl]⟩
   rintro ⟨i,v,σ1⟩ ⟨hi,acc,n,ho,hac,hn,hs⟩ ih
   simp only at hi ho hac hn hs
   obtain ⟨n,rfl⟩:∃m,n=m+1:=⟨n - 1,by omega⟩
   by_cases hlt:i < s.length
   · obtain ⟨x,hx⟩:=Bu hlt
     rw [El hx,D9] at hs
     have hw1:=BV (show i+1≤9000000000000000000 by omega)
     have hsl:(x::s.drop (i+1)).length=s.length - i:=by simp;omega
     cases hb:U1 x.toNat with
     |true=>
      rw [hb] at hs
      (repeat' (first|refine Run.ct rfl ?_|((first|refine Run.reg mixed ?_|refine Run.AJ ?_|refine Run.A9 CG (AN.le_refl _) ?_|refine AI.det (Jg _ _) ?_)<;>try simp -implicitDefEqProofs only [BQ hlt,DJ hx,hb,hw1,go_sem])|fail))
      exact ih (i+1,v,σ1) ⟨hlt,acc,n,ho,by simp only;omega,by simp only;omega,hs⟩ (by simp only;omega)
     |false=>
      rw [hb,if_neg (by simp)] at hs
      cases hc:(x==35) with
      |true=>
       rw [hc,if_pos rfl] at hs
       (repeat' (first|refine Run.ct rfl ?_|((first|refine Run.reg mixed ?_|refine Run.AJ ?_|refine Run.A9 CG (AN.le_refl _) ?_|refine AI.det (Jg _ _) ?_)<;>try simp -implicitDefEqProofs only [BQ hlt,DJ hx,Qn,hb,hc,go_sem])|fail))
       refine Run.PX [0,5,6] ?_;simp -implicitDefEqProofs only [go_sem]
       refine Run.B3 ?_
       refine Run.B6 ((fun (a0:AV) (a5:AV)=>fun (j:Nat)=>put 0 a0 (put 5 a5 (put 6 (.d (.int .i64 j)) U))) _ _) (fun _=>E) (fun _=>σ1) (fun j=>i≤j∧j≤s.length∧∀q b,q < j - i→(s.drop i)[q]?=some b→(!(b==10))=true) (fun j=>s.length - j) ?_ i ⟨A8 i,hi,by intro q b hq;omega⟩
       rintro j ⟨hij,hj,hall⟩ ih2
       have hw2:=BV (show j+1≤9000000000000000000 by omega)
       by_cases hjl:j < s.length
       · obtain ⟨z,hz⟩:=Bu hjl
         have hz2:(s.drop i)[j - i]?=some z:=by rw [BO,show i+(j - i)=j by omega];exact hz
         cases h10:(z==10) with
         |true=>
          (repeat' (first|refine Run.ct rfl ?_|((first|refine Run.reg mixed ?_|refine Run.AJ ?_|refine Run.A9 CG (AN.le_refl _) ?_)<;>try simp -implicitDefEqProofs only [BQ hjl,DJ hz,fM,h10,go_sem])|fail))
          have hk:cmt (x::s.drop (i+1))=j - i:=by
           rw [← El hx,cmt,FB hall (by simp;omega) (fun b hb=>by rw [hz2] at hb;cases hb;simp [h10])]
           simp;omega
          have hji:j≠i:=fun e=>by
           subst e
           rw [hx] at hz;cases hz
           simp only [beq_iff_eq] at hc h10
           rw [hc] at h10;exact absurd h10 (by decide)
          rw [hk,← El hx,CN,show i+(j - i)=j by omega] at hs
          refine Run.PX [0,5,6] ?_;simp -implicitDefEqProofs only [go_sem]
          exact ih (j,v,σ1) ⟨hj,acc,n,ho,by simp only;omega,by simp only;omega,hs⟩ (by simp only;omega)
         |false=>
          (repeat' (first|refine Run.ct rfl ?_|((first|refine Run.reg mixed ?_|refine Run.AJ ?_|refine Run.A9 CG (AN.le_refl _) ?_)<;>try simp -implicitDefEqProofs only [BQ hjl,DJ hz,fM,h10,hw2,go_sem])|fail))
          refine ih2 (j+1) ⟨by omega,hjl,fun q b hq hb=>?_⟩ (by omega)
          rcases Co q (j - i) with h2|h2
          · exact hall q b h2 hb
          · have:q=j - i:=by omega
            subst this
            rw [hz2] at hb;cases hb;simp [h10]
       · have hje:j=s.length:=by omega
         have hk:cmt (x::s.drop (i+1))=j - i:=by
          rw [← El hx,cmt,FB hall (by simp;omega) (fun b hb=>by rw [BO,show i+(j - i)=j by omega,hje] at hb;simp at hb)]
          simp;omega
         rw [hk,← El hx,CN,show i+(j - i)=j by omega,hje,RJ] at hs
         obtain ⟨n,rfl⟩:∃m,n=m+1:=⟨n - 1,by omega⟩
         rw [D9] at hs
         (repeat' (first|refine Run.ct rfl ?_|((first|refine Run.reg mixed ?_|refine Run.AJ ?_|(refine JH.own ho rfl (by simp) (by simp;omega) (by decide) (fun v2 σ2 ho2 hbk=>?_))|(refine Run.A9 CG ho2.le ?_)|refine Run.A9 CG (AN.le_refl _) ?_)<;>try simp -implicitDefEqProofs only [DA hjl,go_sem])|fail))
         simp -implicitDefEqProofs only [ho2.As,ho2.plain,go_sem]
         rw [hs];simp [Hq,Tok.enc]
      |false=>
       rw [hc,if_neg (by simp)] at hs
       rcases hsc:De (x::s.drop (i+1)) with e|⟨k,t⟩
       · rw [hsc] at hs
         have he:=Pd hsc
         have hne:(e != 0)=true:=by simp;omega
         (repeat' (first|refine Run.ct rfl ?_|((first|refine Run.reg mixed ?_|refine Run.AJ ?_|(refine Run.A9 CG ho.le ?_)|refine Run.A9 CG (AN.le_refl _) ?_|refine AI.det (Jg _ _) ?_|refine AI.det (UW _ _ _ (by omega) hlt) ?_)<;>try simp -implicitDefEqProofs only [BQ hlt,DJ hx,Qn,hb,hc,El hx,hsc,jI,r7,hne,ho.BJ,AU,go_sem])|fail))
         rw [hs];rfl
       · rw [hsc] at hs
         have hsn:=Pe hsc
         rw [hsl] at hsn
         (repeat' (first|refine Run.ct rfl ?_|((first|refine Run.reg mixed ?_|refine Run.AJ ?_|(refine JH.own ho rfl (by simp) (by simp;omega) (by decide) (fun v2 σ2 ho2 hbk=>?_))|refine Run.A9 CG (AN.le_refl _) ?_|refine AI.det (Jg _ _) ?_|refine AI.det (UW _ _ _ (by omega) hlt) ?_)<;>try simp -implicitDefEqProofs only [BQ hlt,DJ hx,Qn,hb,hc,El hx,hsc,jI,r7,ho.BJ,AU,wrap_add (show i+t.length≤9000000000000000000 by omega),go_sem])|(refine ⟨fun h=>?_,fun h=>?_⟩<;>first|(cases h;done)|try simp only [h])|fail))
         refine ih (i+t.length,v2,σ2) ⟨?_,acc++[⟨k,t,i⟩],n,?_,?_,?_,?_⟩ ?_
         · simp only;omega
         · simpa [Tok.enc] using ho2
         · simp only [AA,Qr];omega
         · simp only;omega
         · rw [hs];simp only;rw [← El hx,CN]
         · simp only;omega
   · have hge:i=s.length:=by omega
     rw [hge,RJ,D9] at hs
     (repeat' (first|refine Run.ct rfl ?_|((first|refine Run.reg mixed ?_|refine Run.AJ ?_|(refine JH.own ho rfl (by simp) (by simp;omega) (by decide) (fun v2 σ2 ho2 hbk=>?_))|(refine Run.A9 CG ho2.le ?_)|refine Run.A9 CG (AN.le_refl _) ?_)<;>try simp -implicitDefEqProofs only [DA hlt,go_sem])|fail))
     simp -implicitDefEqProofs only [ho2.As,ho2.plain,go_sem]
     rw [hs];simp [Hq,Tok.enc]
end Go.Ab
