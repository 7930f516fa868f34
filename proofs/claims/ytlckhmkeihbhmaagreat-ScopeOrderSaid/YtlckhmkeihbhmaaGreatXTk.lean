/- Bytes and keywords. Keywords and numbers of the reference. Signs, numbers and prefixes. Prefixes and tokens. One token. Texts split into tokens. Conditions: none. -/
import Derived.Test.YtlckhmkeihbhmaaGreatXLfP
set_option linter.unusedSimpArgs false
set_option linter.unusedVariables false
set_option maxRecDepth 4000
set_option maxHeartbeats 8000000
open List renaming any_cons→N4,length_map→AA,drop_length→NJ,take_succ_cons→PN,take_zero→Ij,getElem?_drop→BE,drop_drop→Dp,length_append→AS
open Bool renaming or_false→GZ,false_or→DL,true_or→JO,eq_iff_iff→Af,false_eq_true→AY,and_true→As,true_and→Au,and_false→Bm,false_and→B5
open Nat renaming lt_or_ge→Bt,le_refl→A0
namespace Go.Ab
open Go.Proofs
def V1 (n:Int):Bool:=decide (97≤n)&&decide (n≤122)
def TJ (n:Int):Bool:=decide (65≤n)&&decide (n≤90)
def H7 (n:Int):Bool:=decide (48≤n)&&decide (n≤57)
def HY (n:Int):Bool:=V1 n||TJ n||H7 n||(n==95)
def Y5 (n:Int):Bool:=(n==9)||(n==10)||(n==13)||(n==32)
theorem O1 (n:Int) (σ:AF):AL Tryz.prog 166 [.d (.int .u8 n)] σ (fun v σ'=>v= .d (.bool (V1 n))∧σ'=σ):=by
 refine VW (by simp) ?_
 rw [Bj]
 (repeat' (first|refine Run.ct rfl ?_|((first|refine Run.reg mixed ?_|refine Run.AE ?_|refine Run.A1 P9 (AF.le_refl _) ?_|(refine Ce rfl (fun h=>?_) (fun h=>?_)<;>try (cases h;done)))<;>try simp -implicitDefEqProofs only [go_sem])|fail))
 all_goals (simp_all [V1];try omega)
theorem O2 (n:Int) (σ:AF):AL Tryz.prog 167 [.d (.int .u8 n)] σ (fun v σ'=>v= .d (.bool (TJ n))∧σ'=σ):=by
 refine VY (by simp) ?_
 rw [Bj]
 (repeat' (first|refine Run.ct rfl ?_|((first|refine Run.reg mixed ?_|refine Run.AE ?_|refine Run.A1 Pa (AF.le_refl _) ?_|(refine Ce rfl (fun h=>?_) (fun h=>?_)<;>try (cases h;done)))<;>try simp -implicitDefEqProofs only [go_sem])|fail))
 all_goals (simp_all [TJ];try omega)
theorem K8 (n:Int) (σ:AF):AL Tryz.prog 171 [.d (.int .u8 n)] σ (fun v σ'=>v= .d (.bool (H7 n))∧σ'=σ):=by
 refine VV (by simp) ?_
 rw [Bj]
 (repeat' (first|refine Run.ct rfl ?_|((first|refine Run.reg mixed ?_|refine Run.AE ?_|refine Run.A1 P8 (AF.le_refl _) ?_|(refine Ce rfl (fun h=>?_) (fun h=>?_)<;>try (cases h;done)))<;>try simp -implicitDefEqProofs only [go_sem])|fail))
 all_goals (simp_all [H7];try omega)
theorem HO (n:Int) (σ:AF):AL Tryz.prog 138 [.d (.int .u8 n)] σ (fun v σ'=>v= .d (.bool (V1 n))∧σ'=σ):=by
 refine Yu (by simp) ?_
 rw [Bj]
 (repeat' (first|refine Run.ct rfl ?_|((first|refine Run.reg mixed ?_|refine Run.AE ?_|refine Run.A1 Tu (AF.le_refl _) ?_|(refine Ce rfl (fun h=>?_) (fun h=>?_)<;>try (cases h;done)))<;>try simp -implicitDefEqProofs only [go_sem])|fail))
 all_goals (simp_all [V1];try omega)
theorem HP (n:Int) (σ:AF):AL Tryz.prog 139 [.d (.int .u8 n)] σ (fun v σ'=>v= .d (.bool (TJ n))∧σ'=σ):=by
 refine Yw (by simp) ?_
 rw [Bj]
 (repeat' (first|refine Run.ct rfl ?_|((first|refine Run.reg mixed ?_|refine Run.AE ?_|refine Run.A1 Tv (AF.le_refl _) ?_|(refine Ce rfl (fun h=>?_) (fun h=>?_)<;>try (cases h;done)))<;>try simp -implicitDefEqProofs only [go_sem])|fail))
 all_goals (simp_all [TJ];try omega)
theorem GM (n:Int) (σ:AF):AL Tryz.prog 140 [.d (.int .u8 n)] σ (fun v σ'=>v= .d (.bool (H7 n))∧σ'=σ):=by
 refine Yt (by simp) ?_
 rw [Bj]
 (repeat' (first|refine Run.ct rfl ?_|((first|refine Run.reg mixed ?_|refine Run.AE ?_|refine Run.A1 Tt (AF.le_refl _) ?_|(refine Ce rfl (fun h=>?_) (fun h=>?_)<;>try (cases h;done)))<;>try simp -implicitDefEqProofs only [go_sem])|fail))
 all_goals (simp_all [H7];try omega)
theorem Hr (n:Int) (σ:AF):AL Tryz.prog 162 [.d (.int .u8 n)] σ (fun v σ'=>v= .d (.bool (Y5 n))∧σ'=σ):=by
 refine VU (by simp) ?_
 rw [Bj]
 (repeat' (first|refine Run.ct rfl ?_|((first|refine Run.reg mixed ?_|refine Run.AE ?_|refine Run.A1 P7 (AF.le_refl _) ?_|(refine Ce rfl (fun h=>?_) (fun h=>?_)<;>try (cases h;done)))<;>try simp -implicitDefEqProofs only [go_sem])|fail))
 all_goals simp_all [Y5]
theorem TI (n:Int) (σ:AF):AL Tryz.prog 169 [.d (.int .u8 n)] σ (fun v σ'=>v= .d (.bool (HY n))∧σ'=σ):=by
 refine UF (by simp) ?_
 rw [Bj]
 (repeat' (first|refine Run.ct rfl ?_|((first|refine Run.reg mixed ?_|refine Run.AE ?_|refine Run.A1 OA (AF.le_refl _) ?_|refine AI.det (O1 _ _) ?_|refine AI.det (O2 _ _) ?_|refine AI.det (K8 _ _) ?_|(refine Ce rfl (fun h=>?_) (fun h=>?_)<;>try (cases h;done)))<;>try simp -implicitDefEqProofs only [go_sem])|fail))
 all_goals simp_all [HY]
def He:List Str:=[[97,114,114,97,121],[98,111,111,108],[99,97,116,99,104],[100,97,116,97],[101,108,115,101],[101,110,100],[102,97,108,115,101],[102,110],[102,117,110],[103,101,116],[105,102],[105,110],[105,110,116],[108,101,110],[108,101,116],[109,97,116,99,104],[110,101,119],[114,97,105,115,101],[114,101,97,100],[114,101,102],[115,101,116],[116,104,101,110],[116,105,99,107],[116,114,117,101],[116,114,121],[117,110,105,116],[119,105,116,104],[119,114,105,116,101]]
def cI (s:Str):Bool:=He.any (s==·)
set_option maxHeartbeats 4000000 in
theorem SD (s:Str) (σ:AF):AL Tryz.prog 170 [.d (.str s)] σ (fun v σ'=>v= .d (.bool (cI s))∧σ'=σ):=by
 refine Sm (by simp) ?_
 rw [Bj]
 (repeat' (first|refine Run.ct rfl ?_|((first|refine Run.reg mixed ?_|refine Run.AE ?_|refine Run.A1 NH (AF.le_refl _) ?_)<;>try simp -implicitDefEqProofs only [go_sem])|(refine ⟨fun h=>?_,fun h=>?_⟩<;>first|(cases h;done)|try simp only [h])|fail))
 all_goals simp only [cI,He,N4,List.any_nil,GZ,DL,JO,Bool.or_true,and_self, *]
end Go.Ab
namespace Go.Ab
open Go.Proofs
theorem V3 (s:Str) (σ:AF):AL Tryz.prog 141 [.d (.str s)] σ (fun v σ'=>v= .d (.bool (cI s))∧σ'=σ):=by
 refine W8 (by simp) ?_
 rw [Bj]
 (repeat (first
   |refine Run.seq ?_
   |refine Run.skip ?_
   |refine Run.block ?_
   |refine Run.blk ?_
   |refine Run.scope ?_
   |refine Run.scp ?_
   |(refine Run.exit rfl ?_)
   |(refine Run.reg mixed ?_;simp -implicitDefEqProofs only [go_sem])
   |(refine Run.AE ?_;simp -implicitDefEqProofs only [go_sem])))
 refine Run.BD ?_
 refine Run.BK ((fun (a0:AV)=>fun (i:Nat)=>put 0 a0 (put 3 (.d (.sl (He.map Aw))) (put 4 (.d (.int .i64 i)) U))) _) (fun _=>E) (fun _=>σ) (fun i=>i≤He.length∧cI s=(He.drop i).any (s==·)) (fun i=>He.length - i) ?_ 0 ⟨by omega,rfl⟩
 rintro i ⟨hi,hs⟩ ih
 by_cases hlt:i < He.length
 · obtain ⟨x,hx⟩:=BC hlt
   have he:=BA (enc:=Aw) hx
   rw [B3 hx,N4] at hs
   (repeat' (first|refine Run.ct rfl ?_|((first|refine Run.reg mixed ?_|refine Run.AE ?_|refine Run.A1 Mb (AF.le_refl _) ?_)<;>try simp -implicitDefEqProofs only [AA,Ac hlt,he,Aw,A5 (show i+1≤9000000000000000000 by have:He.length=28:=rfl;omega),go_sem])|(refine ⟨fun h=>?_,fun h=>?_⟩<;>first|(cases h;done)|try simp only [h])|fail))
   · rw [hs];simp_all
   · refine ih (i+1) ⟨hlt,?_⟩ (by omega)
     rw [hs,show (s==x)=(x==s) from BEq.comm,h,DL]
 · have hge:i=He.length:=by omega
   (repeat' (first|refine Run.ct rfl ?_|((first|refine Run.reg mixed ?_|refine Run.AE ?_|refine Run.A1 Mb (AF.le_refl _) ?_)<;>try simp -implicitDefEqProofs only [AA,Bi hlt,go_sem])|fail))
   rw [hs,hge];rfl
def LJ:Str→Int→Option Int
 |[],v=>some v
 |b::r,v=>if v * 10+IntKind.u8.wrap ((b.toNat:Int) - 48)>1000000 then none else LJ r (v * 10+IntKind.u8.wrap ((b.toNat:Int) - 48))
theorem kZ (a:Int):0≤IntKind.u8.wrap a∧IntKind.u8.wrap a≤255:=by
 have h1:IntKind.u8.wrap a=a % 256:=by rfl
 rw [h1];omega
theorem Xp (s:Str) (σ:AF) (hl:s.length≤1000000000):AL Tryz.prog 142 [.d (.str s)] σ (fun v σ'=>v=(match LJ s 0 with|some n=>.tup [.d (.int .i64 n),.d (.bool true)]|none=>.tup [.d (.int .i64 0),.d (.bool false)])∧σ'=σ):=by
 refine Ys (by simp) ?_
 rw [Bj]
 (repeat (first
   |refine Run.seq ?_
   |refine Run.skip ?_
   |refine Run.block ?_
   |refine Run.blk ?_
   |refine Run.scope ?_
   |refine Run.scp ?_
   |(refine Run.exit rfl ?_)
   |(refine Run.reg mixed ?_;simp -implicitDefEqProofs only [go_sem])
   |(refine Run.AE ?_;simp -implicitDefEqProofs only [go_sem])))
 refine Run.BD ?_
 refine Run.BK ((fun (a0:AV)=>fun (y:Nat×Int)=>put 0 a0 (put 4 (.d (.int .i64 y.2)) (put 5 (.d (.int .i64 y.1)) U))) _) (fun _=>E) (fun _=>σ) (fun y=>y.1≤s.length∧0≤y.2∧y.2≤1000000∧LJ s 0=LJ (s.drop y.1) y.2) (fun y=>s.length - y.1) ?_ (0,0) ⟨by simp,by simp,by simp,rfl⟩
 rintro ⟨i,v⟩ ⟨hi,h0,h1,hs⟩ ih
 simp only at hi h0 h1 hs
 by_cases hlt:i < s.length
 · obtain ⟨x,hx⟩:=BC hlt
   rw [B3 hx,LJ] at hs
   have hu:=kZ ((x.toNat:Int) - 48)
   have e1:IntKind.i64.wrap (v * 10)=v * 10:=BL (by omega) (by omega)
   have e2:IntKind.i64.wrap (IntKind.u8.wrap ((x.toNat:Int) - 48))=IntKind.u8.wrap ((x.toNat:Int) - 48):=BL (by omega) (by omega)
   have e3:IntKind.i64.wrap (v * 10+IntKind.u8.wrap ((x.toNat:Int) - 48))=v * 10+IntKind.u8.wrap ((x.toNat:Int) - 48):=BL (by omega) (by omega)
   (repeat' (first|refine Run.ct rfl ?_|((first|refine Run.reg mixed ?_|refine Run.AE ?_|refine Run.A1 Pv (AF.le_refl _) ?_)<;>try simp -implicitDefEqProofs only [Ac hlt,Cm hx,e1,e2,e3,A5 (show i+1≤9000000000000000000 by omega),go_sem])|(refine ⟨fun h=>?_,fun h=>?_⟩<;>first|(cases h;done)|try simp only [h])|fail))
   · have:v * 10+IntKind.u8.wrap ((x.toNat:Int) - 48)>1000000:=by simpa using h
     rw [hs,if_pos this]
   · have:¬v * 10+IntKind.u8.wrap ((x.toNat:Int) - 48)>1000000:=by simpa using h
     rw [if_neg this] at hs
     exact ih (i+1,_) ⟨hlt,by simp only;omega,by simp only;omega,hs⟩ (by simp only;omega)
 · have hge:i=s.length:=by omega
   (repeat' (first|refine Run.ct rfl ?_|((first|refine Run.reg mixed ?_|refine Run.AE ?_|refine Run.A1 Pv (AF.le_refl _) ?_)<;>try simp -implicitDefEqProofs only [Bi hlt,go_sem])|fail))
   rw [hs,hge,NJ,LJ]
end Go.Ab
namespace Go.Ab
open Go.Proofs
def Ui:Str:=[40,41,44,61,124,43,45,42,47,37,60,59,95]
def Ww (b:UInt8):Nat:=if Ui.any (b==·) then 1 else 0
def gV (b c:UInt8):Bool:=([b,c]==[45,62])||([b,c]==[60,61])||([b,c]==[61,61])
def Gm:Str→Nat
 |[]=>0
 |[b]=>Ww b
 |b::c::_=>if gV b c then 2 else Ww b
theorem kS:decide ((2:Int)≤((1:Nat):Int))=false:=rfl
theorem kT (n:Nat):decide ((2:Int)≤((n+1+1:Nat):Int))=true:=by simp;omega
theorem nA (b c:UInt8):([b]==[c])=(b==c):=by
 rw [Af];simp
set_option maxHeartbeats 4000000 in
theorem Vd (s:Str) (σ:AF) (hs:s≠[]):AL Tryz.prog 173 [.d (.str s)] σ (fun v σ'=>v= .d (.str (s.take (Gm s)))∧σ'=σ):=by
 match s,hs with
 |[b],_=>
  refine Qs (by simp) ?_
  rw [Bj]
  (repeat' (first|refine Run.ct rfl ?_|((first|refine Run.reg mixed ?_|refine Run.AE ?_|refine Run.A1 Mc (AF.le_refl _) ?_)<;>try simp -implicitDefEqProofs only [kS,kX,nA,go_sem])|(refine ⟨fun h=>?_,fun h=>?_⟩<;>first|(cases h;done)|try simp only [h])|fail))
  all_goals simp only [Gm,Ww,Ui,N4,List.any_nil,GZ,DL,JO,Bool.or_true,reduceIte,PN,Ij,AY,and_self, *]
 |b::c::r,_=>
  refine Qs (by simp) ?_
  rw [Bj]
  (repeat' (first|refine Run.ct rfl ?_|((first|refine Run.reg mixed ?_|refine Run.AE ?_|refine Run.A1 Mc (AF.le_refl _) ?_)<;>try simp -implicitDefEqProofs only [kT,kX,kY,nA,go_sem])|(refine ⟨fun h=>?_,fun h=>?_⟩<;>first|(cases h;done)|try simp only [h])|fail))
  all_goals simp only [Gm,gV,Ww,Ui,N4,List.any_nil,GZ,DL,JO,Bool.or_true,reduceIte,PN,Ij,AY,and_self, *]
theorem Uq (s:Str) (σ:AF) (hl:s.length≤1000000000):AL Tryz.prog 172 [.d (.str s)] σ (fun v σ'=>v= .d (.bool (LJ s 0).isSome)∧σ'=σ):=by
 refine VX (by simp) ?_
 rw [Bj]
 (repeat (first
   |refine Run.seq ?_
   |refine Run.skip ?_
   |refine Run.block ?_
   |refine Run.blk ?_
   |refine Run.scope ?_
   |refine Run.scp ?_
   |(refine Run.exit rfl ?_)
   |(refine Run.reg mixed ?_;simp -implicitDefEqProofs only [go_sem])
   |(refine Run.AE ?_;simp -implicitDefEqProofs only [go_sem])))
 refine Run.BD ?_
 refine Run.BK ((fun (a0:AV) (a6:AV)=>fun (y:Nat×Int)=>put 0 a0 (put 3 (.d (.int .i64 y.2)) (put 6 a6 (put 7 (.d (.int .i64 y.1)) U)))) _ _) (fun _=>E) (fun _=>σ) (fun y=>y.1≤s.length∧0≤y.2∧y.2≤1000000∧LJ s 0=LJ (s.drop y.1) y.2) (fun y=>s.length - y.1) ?_ (0,0) ⟨by simp,by simp,by simp,rfl⟩
 rintro ⟨i,v⟩ ⟨hi,h0,h1,hs⟩ ih
 simp only at hi h0 h1 hs
 by_cases hlt:i < s.length
 · obtain ⟨x,hx⟩:=BC hlt
   rw [B3 hx,LJ] at hs
   have hu:=kZ ((x.toNat:Int) - 48)
   have e1:IntKind.i64.wrap (v * 10)=v * 10:=BL (by omega) (by omega)
   have e2:IntKind.i64.wrap (IntKind.u8.wrap ((x.toNat:Int) - 48))=IntKind.u8.wrap ((x.toNat:Int) - 48):=BL (by omega) (by omega)
   have e3:IntKind.i64.wrap (v * 10+IntKind.u8.wrap ((x.toNat:Int) - 48))=v * 10+IntKind.u8.wrap ((x.toNat:Int) - 48):=BL (by omega) (by omega)
   (repeat' (first|refine Run.ct rfl ?_|((first|refine Run.reg mixed ?_|refine Run.AE ?_|refine Run.A1 LX (AF.le_refl _) ?_)<;>try simp -implicitDefEqProofs only [Ac hlt,Cm hx,e1,e2,e3,A5 (show i+1≤9000000000000000000 by omega),go_sem])|(refine ⟨fun h=>?_,fun h=>?_⟩<;>first|(cases h;done)|try simp only [h])|fail))
   · have:v * 10+IntKind.u8.wrap ((x.toNat:Int) - 48)>1000000:=by simpa using h
     rw [hs,if_pos this];rfl
   · have:¬v * 10+IntKind.u8.wrap ((x.toNat:Int) - 48)>1000000:=by simpa using h
     rw [if_neg this] at hs
     exact ih (i+1,_) ⟨hlt,by simp only;omega,by simp only;omega,hs⟩ (by simp only;omega)
 · have hge:i=s.length:=by omega
   (repeat' (first|refine Run.ct rfl ?_|((first|refine Run.reg mixed ?_|refine Run.AE ?_|refine Run.A1 LX (AF.le_refl _) ?_)<;>try simp -implicitDefEqProofs only [Bi hlt,go_sem])|fail))
   rw [hs,hge,NJ,LJ];rfl
end Go.Ab
namespace Go.Ab
open Go.Proofs
def ED (c:Int→Bool) (b:UInt8):Bool:=c b.toNat
theorem EP {c:UInt8→Bool} {s:Str} {i:Nat} (h:∀j b,j < i→s[j]?=some b→c b=true) (hi:i≤s.length) (he:∀b,s[i]?=some b→c b=false):s.takeWhile c=s.take i:=by
 induction i generalizing s with
 |zero=>
  cases s with
  |nil=>rfl
  |cons b r=>simp [he b rfl]
 |succ i ih=>
  cases s with
  |nil=>simp at hi
  |cons b r=>
   have hb:c b=true:=h 0 b (by omega) rfl
   rw [List.takeWhile_cons,hb,if_pos rfl,PN,ih (fun j b hj hb=>h (j+1) b (by omega) hb) (by simpa using hi) (fun b hb=>he b hb)]
theorem NI {fid:FuncId} (hb:C2 Tryz.prog fid=true) (c:Int→Bool) (hc:∀n σ,AL Tryz.prog fid [.d (.int .u8 n)] σ (fun v σ'=>v= .d (.bool (c n))∧σ'=σ)) (s:Str) (σ:AF) (hl:s.length≤1000000000):
 AL Tryz.prog 168 [.d (.str s),.fn fid [] []] σ (fun v σ'=>v= .d (.str (s.takeWhile (ED c)))∧σ'=σ):=by
 refine UE (by simp) ?_
 rw [BX]
 (repeat (first
   |refine Run.seq ?_
   |refine Run.skip ?_
   |refine Run.block ?_
   |refine Run.blk ?_
   |refine Run.scope ?_
   |refine Run.scp ?_
   |(refine Run.exit rfl ?_)
   |(refine Run.reg mixed ?_;simp -implicitDefEqProofs only [go_sem])
   |(refine Run.AE ?_;simp -implicitDefEqProofs only [go_sem])))
 refine Run.BD ?_
 refine Run.BK ((fun (a0:AV) (a1:AV)=>fun (i:Nat)=>put 0 a0 (put 1 a1 (put 5 (.d (.int .i64 i)) U))) _ _) (fun _=>E) (fun _=>σ) (fun i=>i≤s.length∧∀j b,j < i→s[j]?=some b→ED c b=true) (fun i=>s.length - i) ?_ 0 ⟨by simp,by simp⟩
 rintro i ⟨hi,hs⟩ ih
 by_cases hlt:i < s.length
 · obtain ⟨x,hx⟩:=BC hlt
   (repeat' (first|refine Run.ct rfl ?_|((first|refine Run.reg mixed ?_|refine Run.AE ?_|(refine ⟨fid,[],[],rfl,hb,AI.det (hc _ _) ?_⟩)|refine Run.A1 KW (AF.le_refl _) ?_)<;>try simp -implicitDefEqProofs only [Ac hlt,Cm hx,Wx hi,A5 (show i+1≤9000000000000000000 by omega),go_sem])|(refine ⟨fun h=>?_,fun h=>?_⟩<;>first|(cases h;done)|try simp only [h])|fail))
   · refine ih (i+1) ⟨hlt,fun j b hj hb=>?_⟩ (by omega)
     rcases Bt j i with h2|h2
     · exact hs j b h2 hb
     · have:j=i:=by omega
       subst this
       rw [hx] at hb;cases hb;exact h
   · rw [EP hs hi (fun b hb=>by rw [hx] at hb;cases hb;exact h)]
 · have hge:i=s.length:=by omega
   (repeat' (first|refine Run.ct rfl ?_|((first|refine Run.reg mixed ?_|refine Run.AE ?_|refine Run.A1 KW (AF.le_refl _) ?_)<;>try simp -implicitDefEqProofs only [Bi hlt,Wx hi,go_sem])|fail))
   rw [EP hs hi (fun b hb=>by rw [hge] at hb;simp at hb)]
theorem ZU (s:Str) (σ:AF) (hs:s≠[]):AL Tryz.prog 143 [.d (.str s)] σ (fun v σ'=>v= .d (.int .i64 (Gm s))∧σ'=σ):=by
 have hloop:∀(b:UInt8) (r:Str),(Gm (b::r)=Ww b)→Run KC (fun v σ'=>v= .d (.int .i64 (Gm (b::r)))∧σ'=σ) [.again Q3,.blk 0,.code (.seq (.reg [⟨some 2,.mv (.c (.d (.int .i64 0))),none⟩] [2]) .ret)] (put 0 (.d (.str (b::r))) (put 3 (.d (.str Ui)) (put 4 (.d (.int .i64 0)) U))) E σ:=by
  intro b r hbr
  refine Run.BK ((fun (a0:AV) (a3:AV)=>fun (i:Nat)=>put 0 a0 (put 3 a3 (put 4 (.d (.int .i64 i)) U))) _ _) (fun _=>E) (fun _=>σ) (fun i=>i≤Ui.length∧Ui.any (b==·)=(Ui.drop i).any (b==·)) (fun i=>Ui.length - i) ?_ 0 ⟨by simp,rfl⟩
  rintro i ⟨hi,hs⟩ ih
  have hn:Ui.length=13:=rfl
  have h0:(b::r)[0]?=some b:=rfl
  by_cases hlt:i < Ui.length
  · obtain ⟨x,hx⟩:=BC hlt
    rw [B3 hx,N4] at hs
    have hz:=Cm h0 .i64
    rw [show ((0:Nat):Int)=0 from rfl] at hz
    (repeat' (first|refine Run.ct rfl ?_|((first|refine Run.reg mixed ?_|refine Run.AE ?_|refine Run.A1 Lx (AF.le_refl _) ?_)<;>try simp -implicitDefEqProofs only [Ac hlt,Cm hx,hz,jY,A5 (show i+1≤9000000000000000000 by omega),go_sem])|(refine ⟨fun h=>?_,fun h=>?_⟩<;>first|(cases h;done)|try simp only [h])|fail))
    · rw [hbr,Ww,hs,h];rfl
    · exact ih (i+1) ⟨hlt,by rw [hs,h];rfl⟩ (by omega)
  · have hge:i=Ui.length:=by omega
    (repeat' (first|refine Run.ct rfl ?_|((first|refine Run.reg mixed ?_|refine Run.AE ?_|refine Run.A1 Lx (AF.le_refl _) ?_)<;>try simp -implicitDefEqProofs only [Bi hlt,go_sem])|fail))
    rw [hbr,Ww,hs,hge];rfl
 match s,hs with
 |[b],_=>
  refine Vu (by simp) ?_
  rw [Bj]
  (repeat' (first|refine Run.ct rfl ?_|((first|refine Run.reg mixed ?_|refine Run.AE ?_|refine Run.A1 Lx (AF.le_refl _) ?_)<;>try simp -implicitDefEqProofs only [kS,go_sem])|fail))
  exact Run.BD (hloop b [] rfl)
 |b::c::r,_=>
  refine Vu (by simp) ?_
  rw [Bj]
  (repeat' (first|refine Run.ct rfl ?_|((first|refine Run.reg mixed ?_|refine Run.AE ?_|refine Run.A1 Lx (AF.le_refl _) ?_|(refine Ce rfl (fun h=>?_) (fun h=>?_)<;>try (cases h;done)))<;>try simp -implicitDefEqProofs only [kT,kY,go_sem])|(refine ⟨fun h=>?_,fun h=>?_⟩<;>first|(cases h;done)|try simp only [h])|fail))
  all_goals (first|exact Run.BD (hloop b (c::r) (by simp only [Gm,gV, *];rfl))|(simp only [Gm,gV, *];rfl))
end Go.Ab
namespace Go.Ab
open Go.Proofs
def Hl:Str→Except Int (Int×Str)
 |[]=>.error 2
 |b::r=>
  if V1 b.toNat||TJ b.toNat then
   if decide (((b::r).takeWhile (ED HY)).length>24) then .error 9
                                  else if TJ b.toNat then .ok (2,(b::r).takeWhile (ED HY))
                                  else if cI ((b::r).takeWhile (ED HY)) then .ok (4,(b::r).takeWhile (ED HY))
                                  else .ok (1,(b::r).takeWhile (ED HY))
                                  else if H7 b.toNat then
   if b==48&&decide (((b::r).takeWhile (ED H7)).length>1) then .error 2
                                         else if (LJ ((b::r).takeWhile (ED H7)) 0).isSome then .ok (3,(b::r).takeWhile (ED H7))
                                         else .error 9
                                         else if (b::r).take (Gm (b::r))==[] then .error 2
                                         else .ok (5,(b::r).take (Gm (b::r)))
def dN (k:Int) (t:Str) (p:Int):AV:= .agg [.d (.int .i64 k),.d (.str t),.d (.int .i64 p)]
def YD (p:Int):Except Int (Int×Str)→AV
 | .error e=>.tup [dN 0 [] 0,.d (.int .i64 e)]
 | .ok (k,t)=>.tup [dN k t p,.d (.int .i64 0)]
theorem Eh {α:Type} (p:α→Bool) (l:List α):(l.takeWhile p).length≤l.length:=(List.takeWhile_prefix p).length_le
theorem g7 (b:UInt8):((b.toNat:Int)==48)=(b==48):=jY b 48
theorem nN (n:Nat):decide ((24:Int) < (n:Int))=decide (n>24):=decide_eq_decide.2 (by omega)
theorem gt1 (n:Nat):decide ((1:Int) < (n:Int))=decide (n>1):=decide_eq_decide.2 (by omega)
theorem bS:C2 Tryz.prog 169=true:=by kernel_rfl
theorem fC:C2 Tryz.prog 171=true:=by kernel_rfl
theorem Pj (src:Str) (i:Nat) (σ:AF) (hl:src.length≤1000000000) (hi:i < src.length):
 AL Tryz.prog 163 [.d (.str src),.d (.int .i64 i)] σ (fun v σ'=>v=YD i (Hl (src.drop i))∧σ'=σ):=by
 obtain ⟨b,hb⟩:=BC hi
 have hd:=B3 hb
 rw [hd]
 have hld:(src.drop i).length≤1000000000:=by simp;omega
 rw [hd] at hld
 have hw1:=Eh (ED HY) (b::src.drop (i+1))
 have hw2:=Eh (ED H7) (b::src.drop (i+1))
 have hs1:OZ (.d (.str src)) (some (.d (.int .i64 (i:Int)))) none=some (.d (.str (b::src.drop (i+1)))):=by rw [gZ (by omega),hd]
 refine Wb (by simp) ?_
 rw [BX]
 generalize src.drop (i+1)=r at *
 (repeat' (first|refine Run.ct rfl ?_|((first|refine Run.reg mixed ?_|refine Run.AE ?_|refine Run.A1 Qn (AF.le_refl _) ?_|refine AI.det (O1 _ _) ?_|refine AI.det (O2 _ _) ?_|refine AI.det (K8 _ _) ?_|refine AI.det (SD _ _) ?_|refine AI.det (Uq _ _ (by omega)) ?_|refine AI.det (Vd _ _ (by simp)) ?_|refine AI.det (NI (c:=HY) bS TI _ _ hld) ?_|refine AI.det (NI (c:=H7) fC K8 _ _ hld) ?_|(refine Ce rfl (fun h=>?_) (fun h=>?_)<;>try (cases h;done)))<;>try simp -implicitDefEqProofs only [Cm hb,hs1,g7,nN,gt1,go_sem])|(refine ⟨fun h=>?_,fun h=>?_⟩<;>first|(cases h;done)|try simp only [h])|fail))
 all_goals (clear hw1 hw2 hs1 hd hld;first|(simp only [Hl,YD,dN, *,Bool.or_true,JO,GZ,DL,As,Au,Bm,B5,AY,reduceIte];done)|simp_all [Hl,YD,dN])
end Go.Ab
namespace Go.Ab
open Go.Proofs
structure Tok where
 kind:Int
 text:Str
 pos:Nat
def Tok.enc (t:Tok):List DV:=[.int .i64 t.kind,.str t.text,.int .i64 t.pos]
def cmt (s:Str):Nat:=(s.takeWhile (fun c=>!(c==10))).length
def MN:Nat→Str→Nat→List Tok→List Tok×Nat×Int
 |0,_,_,_=>([],0,0)
 |n+1,rest,i,acc=>match rest with
  |[]=>(acc++[⟨6,[],i⟩],0,0)
  |b::r=>
   if Y5 b.toNat then MN n r (i+1) acc
                               else if b==35 then MN n ((b::r).drop (cmt (b::r))) (i+cmt (b::r)) acc
                               else match Hl (b::r) with
    | .error e=>([],i,e)
    | .ok (k,t)=>MN n ((b::r).drop t.length) (i+t.length) (acc++[⟨k,t,i⟩])
def GP (s:Str):List Tok×Nat×Int:=if s.length>16384 then ([],0,9) else MN (s.length+1) s 0 []
def Hq (r:List Tok×Nat×Int):AV:= .tup [.d (.sl (r.1.map Tok.enc)),.d (.int .i64 r.2.1),.d (.int .i64 r.2.2)]
theorem Mu (b:UInt8):((b.toNat:Int)==35)=(b==35):=jY b 35
theorem Wz (b:UInt8):((b.toNat:Int)==10)=(b==10):=jY b 10
theorem e9 (n:Nat):decide ((16384:Int) < (n:Int))=decide (n>16384):=decide_eq_decide.2 (by omega)
theorem YE {s:Str} {k:Int} {t:Str} (h:Hl s= .ok (k,t)):1≤t.length∧t.length≤s.length:=by
 match s with
 |[]=>simp [Hl] at h
 |b::r=>
  have h1:=Eh (ED HY) (b::r)
  have h2:=Eh (ED H7) (b::r)
  simp only [Hl] at h
  split at h
  · rename_i hlu
    have hw:ED HY b=true:=by
     simp only [ED,HY];rw [hlu];rfl
    have h3:1≤((b::r).takeWhile (ED HY)).length:=by simp [hw]
    split at h
    · cases h
    · split at h
      · cases h;exact ⟨h3,h1⟩
      · split at h<;>(cases h;exact ⟨h3,h1⟩)
  · split at h
    · rename_i hdg
      have h3:1≤((b::r).takeWhile (ED H7)).length:=by simp [ED,hdg]
      split at h
      · cases h
      · split at h<;>cases h
        exact ⟨h3,h2⟩
    · split at h
      · cases h
      · rename_i hne
        cases h
        refine ⟨?_,List.length_take_le' _ _⟩
        cases he:(b::r).take (Gm (b::r)) with
        |nil=>rw [he] at hne;simp at hne
        |cons=>simp
theorem gT {s:Str} {e:Int} (h:Hl s= .error e):e=2∨e=9:=by
 match s with
 |[]=>simp only [Hl,Except.error.injEq] at h;omega
 |b::r=>
  simp only [Hl] at h
  repeat' split at h
  all_goals first|(cases h;simp;done)|cases h
theorem Up (s:Str) (σ:AF):AL Tryz.prog 149 [.d (.str s)] σ (fun v σ'=>v=Hq (GP s)∧σ'=σ):=by
 refine VT (by simp) ?_
 rw [Bj]
 (repeat' (first|refine Run.ct rfl ?_|((first|refine Run.reg mixed ?_|refine Run.AE ?_|refine Run.A1 CH (AF.le_refl _) ?_)<;>try simp -implicitDefEqProofs only [e9,go_sem])|(refine ⟨fun h=>?_,fun h=>?_⟩<;>first|(cases h;done)|try simp only [h])|fail))
 · have:s.length>16384:=by simpa using h
   simp [Hq,GP,this]
 · have hl:¬s.length>16384:=by simpa using h
   refine Run.BD ?_
   refine Run.BK ((fun (a0:AV)=>fun (y:Nat×AV×AF)=>put 0 a0 (put 5 (y.2.1) (put 6 (.d (.int .i64 y.1)) U))) _) (fun _=>E) (fun y=>y.2.2) (fun y=>y.1≤s.length∧∃acc n,Dh σ 216 3 (acc.map Tok.enc) y.2.1 y.2.2∧acc.length≤y.1∧s.length - y.1 < n∧GP s=MN n (s.drop y.1) y.1 acc) (fun y=>s.length - y.1) ?_ (0,.AZ,σ) ⟨by simp,[],s.length+1,Dh.nil _ _ _,by simp,by simp,by simp [GP,hl]⟩
   rintro ⟨i,v,σ1⟩ ⟨hi,acc,n,ho,hac,hn,hs⟩ ih
   simp only at hi ho hac hn hs
   obtain ⟨n,rfl⟩:∃m,n=m+1:=⟨n - 1,by omega⟩
   by_cases hlt:i < s.length
   · obtain ⟨x,hx⟩:=BC hlt
     rw [B3 hx,MN] at hs
     have hw1:=A5 (show i+1≤9000000000000000000 by omega)
     have hsl:(x::s.drop (i+1)).length=s.length - i:=by simp;omega
     cases hb:Y5 x.toNat with
     |true=>
      rw [hb] at hs
      (repeat' (first|refine Run.ct rfl ?_|((first|refine Run.reg mixed ?_|refine Run.AE ?_|refine Run.A1 CH (AF.le_refl _) ?_|refine AI.det (Hr _ _) ?_)<;>try simp -implicitDefEqProofs only [Ac hlt,Cm hx,hb,hw1,go_sem])|fail))
      exact ih (i+1,v,σ1) ⟨hlt,acc,n,ho,by simp only;omega,by simp only;omega,hs⟩ (by simp only;omega)
     |false=>
      rw [hb,if_neg (by simp)] at hs
      cases hc:(x==35) with
      |true=>
       rw [hc,if_pos rfl] at hs
       (repeat' (first|refine Run.ct rfl ?_|((first|refine Run.reg mixed ?_|refine Run.AE ?_|refine Run.A1 CH (AF.le_refl _) ?_|refine AI.det (Hr _ _) ?_)<;>try simp -implicitDefEqProofs only [Ac hlt,Cm hx,Mu,hb,hc,go_sem])|fail))
       refine Run.MF [0,5,6] ?_;simp -implicitDefEqProofs only [go_sem]
       refine Run.BD ?_
       refine Run.BK ((fun (a0:AV) (a5:AV)=>fun (j:Nat)=>put 0 a0 (put 5 a5 (put 6 (.d (.int .i64 j)) U))) _ _) (fun _=>E) (fun _=>σ1) (fun j=>i≤j∧j≤s.length∧∀q b,q < j - i→(s.drop i)[q]?=some b→(!(b==10))=true) (fun j=>s.length - j) ?_ i ⟨A0 i,hi,by intro q b hq;omega⟩
       rintro j ⟨hij,hj,hall⟩ ih2
       have hw2:=A5 (show j+1≤9000000000000000000 by omega)
       by_cases hjl:j < s.length
       · obtain ⟨z,hz⟩:=BC hjl
         have hz2:(s.drop i)[j - i]?=some z:=by rw [BE,show i+(j - i)=j by omega];exact hz
         cases h10:(z==10) with
         |true=>
          (repeat' (first|refine Run.ct rfl ?_|((first|refine Run.reg mixed ?_|refine Run.AE ?_|refine Run.A1 CH (AF.le_refl _) ?_)<;>try simp -implicitDefEqProofs only [Ac hjl,Cm hz,Wz,h10,go_sem])|fail))
          have hk:cmt (x::s.drop (i+1))=j - i:=by
           rw [← B3 hx,cmt,EP hall (by simp;omega) (fun b hb=>by rw [hz2] at hb;cases hb;simp [h10])]
           simp;omega
          have hji:j≠i:=fun e=>by
           subst e
           rw [hx] at hz;cases hz
           simp only [beq_iff_eq] at hc h10
           rw [hc] at h10;exact absurd h10 (by decide)
          rw [hk,← B3 hx,Dp,show i+(j - i)=j by omega] at hs
          refine Run.MF [0,5,6] ?_;simp -implicitDefEqProofs only [go_sem]
          exact ih (j,v,σ1) ⟨hj,acc,n,ho,by simp only;omega,by simp only;omega,hs⟩ (by simp only;omega)
         |false=>
          (repeat' (first|refine Run.ct rfl ?_|((first|refine Run.reg mixed ?_|refine Run.AE ?_|refine Run.A1 CH (AF.le_refl _) ?_)<;>try simp -implicitDefEqProofs only [Ac hjl,Cm hz,Wz,h10,hw2,go_sem])|fail))
          refine ih2 (j+1) ⟨by omega,hjl,fun q b hq hb=>?_⟩ (by omega)
          rcases Bt q (j - i) with h2|h2
          · exact hall q b h2 hb
          · have:q=j - i:=by omega
            subst this
            rw [hz2] at hb;cases hb;simp [h10]
       · have hje:j=s.length:=by omega
         have hk:cmt (x::s.drop (i+1))=j - i:=by
          rw [← B3 hx,cmt,EP hall (by simp;omega) (fun b hb=>by rw [BE,show i+(j - i)=j by omega,hje] at hb;simp at hb)]
          simp;omega
         rw [hk,← B3 hx,Dp,show i+(j - i)=j by omega,hje,NJ] at hs
         obtain ⟨n,rfl⟩:∃m,n=m+1:=⟨n - 1,by omega⟩
         rw [MN] at hs
         (repeat' (first|refine Run.ct rfl ?_|((first|refine Run.reg mixed ?_|refine Run.AE ?_|(refine EY.own ho rfl (by simp) (by simp;omega) (by decide) (fun v2 σ2 ho2 hbk=>?_))|(refine Run.A1 CH ho2.le ?_)|refine Run.A1 CH (AF.le_refl _) ?_)<;>try simp -implicitDefEqProofs only [Bi hjl,go_sem])|fail))
         simp -implicitDefEqProofs only [ho2.BY,ho2.plain,go_sem]
         rw [hs];simp [Hq,Tok.enc]
      |false=>
       rw [hc,if_neg (by simp)] at hs
       rcases hsc:Hl (x::s.drop (i+1)) with e|⟨k,t⟩
       · rw [hsc] at hs
         have he:=gT hsc
         have hne:(e != 0)=true:=by simp;omega
         (repeat' (first|refine Run.ct rfl ?_|((first|refine Run.reg mixed ?_|refine Run.AE ?_|(refine Run.A1 CH ho.le ?_)|refine Run.A1 CH (AF.le_refl _) ?_|refine AI.det (Hr _ _) ?_|refine AI.det (Pj _ _ _ (by omega) hlt) ?_)<;>try simp -implicitDefEqProofs only [Ac hlt,Cm hx,Mu,hb,hc,B3 hx,hsc,YD,dN,hne,ho.BO,AY,go_sem])|fail))
         rw [hs];rfl
       · rw [hsc] at hs
         have hsn:=YE hsc
         rw [hsl] at hsn
         (repeat' (first|refine Run.ct rfl ?_|((first|refine Run.reg mixed ?_|refine Run.AE ?_|(refine EY.own ho rfl (by simp) (by simp;omega) (by decide) (fun v2 σ2 ho2 hbk=>?_))|refine Run.A1 CH (AF.le_refl _) ?_|refine AI.det (Hr _ _) ?_|refine AI.det (Pj _ _ _ (by omega) hlt) ?_)<;>try simp -implicitDefEqProofs only [Ac hlt,Cm hx,Mu,hb,hc,B3 hx,hsc,YD,dN,ho.BO,AY,wrap_add (show i+t.length≤9000000000000000000 by omega),go_sem])|(refine ⟨fun h=>?_,fun h=>?_⟩<;>first|(cases h;done)|try simp only [h])|fail))
         refine ih (i+t.length,v2,σ2) ⟨?_,acc++[⟨k,t,i⟩],n,?_,?_,?_,?_⟩ ?_
         · simp only;omega
         · simpa [Tok.enc] using ho2
         · simp only [AS,List.length_singleton];omega
         · simp only;omega
         · rw [hs];simp only;rw [← B3 hx,Dp]
         · simp only;omega
   · have hge:i=s.length:=by omega
     rw [hge,NJ,MN] at hs
     (repeat' (first|refine Run.ct rfl ?_|((first|refine Run.reg mixed ?_|refine Run.AE ?_|(refine EY.own ho rfl (by simp) (by simp;omega) (by decide) (fun v2 σ2 ho2 hbk=>?_))|(refine Run.A1 CH ho2.le ?_)|refine Run.A1 CH (AF.le_refl _) ?_)<;>try simp -implicitDefEqProofs only [Bi hlt,go_sem])|fail))
     simp -implicitDefEqProofs only [ho2.BY,ho2.plain,go_sem]
     rw [hs];simp [Hq,Tok.enc]
end Go.Ab
