/- Signs, numbers and prefixes. Prefixes and tokens. One token. Texts split into tokens. The parser in plain data: its steps. Conditions: none. -/
import Derived.Test.YtifplkldbbcldaaGreatDoorXLfP
set_option linter.unusedSimpArgs false
set_option linter.unusedVariables false
set_option maxRecDepth 4000
set_option maxHeartbeats 8000000
open Bool renaming eq_iff_iff→Gr,or_false→Mp,or_true→Od,false_eq_true→A1,and_true→B0,true_and→DD
open List renaming take_succ_cons→T3,take_zero→Kq,takeWhile_cons→Fa,getElem?_drop→Dq,drop_drop→Cv,length_append→AA,length_cons→AE,map_cons→AD,length→Re,drop→Gu,nil_append→A0
open Nat renaming lt_or_ge→E3,le_refl→A8
open Prod.mk renaming injEq→BY
namespace Go.Ab
open Go.Proofs
def yU:Str:=[40,41,44,61,124,43,45,42,47,37,60,59,95]
def rX (b:UInt8):Nat:=if yU.any (b==·) then 1 else 0
def iS (b c:UInt8):Bool:=([b,c]==[45,62])||([b,c]==[60,61])||([b,c]==[61,61])
def Sb:Str→Nat
 |[]=>0
 |[b]=>rX b
 |b::c::_=>if iS b c then 2 else rX b
theorem AAE:decide ((2:Int)≤((1:Nat):Int))=false:=rfl
theorem AAF (n:Nat):decide ((2:Int)≤((n+1+1:Nat):Int))=true:=by simp;omega
theorem zY (b c:UInt8):([b]==[c])=(b==c):=by
 rw [Gr];simp
set_option maxHeartbeats 4000000 in
theorem Z5 (s:Str) (σ:AM) (hs:s≠[]):AQ Tryz.prog 119 [.d (.str s)] σ (fun v σ'=>v= .d (.str (s.take (Sb s)))∧σ'=σ):=by
 match s,hs with
 |[b],_=>
  refine VI (by simp) ?_
  rw [BO]
  (repeat' (first|refine Run.ct rfl ?_|((first|refine Run.reg mixed ?_|refine Run.AJ ?_|refine Run.A9 QA (AM.le_refl _) ?_)<;>try simp -implicitDefEqProofs only [AAE,wO,zY,go_sem])|(refine ⟨fun h=>?_,fun h=>?_⟩<;>first|(cases h;done)|try simp only [h])|fail))
  all_goals simp only [Sb,rX,yU,List.any_cons,List.any_nil,Mp,Bool.false_or,Bool.true_or,Od,reduceIte,T3,Kq,A1,and_self, *]
 |b::c::r,_=>
  refine VI (by simp) ?_
  rw [BO]
  (repeat' (first|refine Run.ct rfl ?_|((first|refine Run.reg mixed ?_|refine Run.AJ ?_|refine Run.A9 QA (AM.le_refl _) ?_)<;>try simp -implicitDefEqProofs only [AAF,wO,AAQ,zY,go_sem])|(refine ⟨fun h=>?_,fun h=>?_⟩<;>first|(cases h;done)|try simp only [h])|fail))
  all_goals simp only [Sb,iS,rX,yU,List.any_cons,List.any_nil,Mp,Bool.false_or,Bool.true_or,Od,reduceIte,T3,Kq,A1,and_self, *]
theorem Yw (s:Str) (σ:AM) (hl:s.length≤1000000000):AQ Tryz.prog 118 [.d (.str s)] σ (fun v σ'=>v= .d (.bool (HV s 0).isSome)∧σ'=σ):=by
 refine ZX (by simp) ?_
 rw [BO]
 (repeat (first
   |refine Run.seq ?_
   |refine Run.skip ?_
   |refine Run.block ?_
   |refine Run.blk ?_
   |refine Run.scope ?_
   |refine Run.scp ?_
   |(refine Run.exit rfl ?_)
   |(refine Run.reg mixed ?_;simp -implicitDefEqProofs only [go_sem])
   |(refine Run.AJ ?_;simp -implicitDefEqProofs only [go_sem])))
 refine Run.Bl ?_
 refine Run.Bm ((fun (a0:AV) (a6:AV)=>fun (y:Nat×Int)=>put 0 a0 (put 3 (.d (.int .i64 y.2)) (put 6 a6 (put 7 (.d (.int .i64 y.1)) U)))) _ _) (fun _=>E) (fun _=>σ) (fun y=>y.1≤s.length∧0≤y.2∧y.2≤1000000∧HV s 0=HV (s.drop y.1) y.2) (fun y=>s.length - y.1) ?_ (0,0) ⟨by simp,by simp,by simp,rfl⟩
 rintro ⟨i,v⟩ ⟨hi,h0,h1,hs⟩ ih
 simp only at hi h0 h1 hs
 by_cases hlt:i < s.length
 · obtain ⟨x,hx⟩:=B4 hlt
   rw [JR hx,HV] at hs
   have hu:=AAS ((x.toNat:Int) - 48)
   have e1:IntKind.i64.wrap (v * 10)=v * 10:=Au (by omega) (by omega)
   have e2:IntKind.i64.wrap (IntKind.u8.wrap ((x.toNat:Int) - 48))=IntKind.u8.wrap ((x.toNat:Int) - 48):=Au (by omega) (by omega)
   have e3:IntKind.i64.wrap (v * 10+IntKind.u8.wrap ((x.toNat:Int) - 48))=v * 10+IntKind.u8.wrap ((x.toNat:Int) - 48):=Au (by omega) (by omega)
   (repeat' (first|refine Run.ct rfl ?_|((first|refine Run.reg mixed ?_|refine Run.AJ ?_|refine Run.A9 OU (AM.le_refl _) ?_)<;>try simp -implicitDefEqProofs only [Bk hlt,Ml hx,e1,e2,e3,Cg (show i+1≤9000000000000000000 by omega),go_sem])|(refine ⟨fun h=>?_,fun h=>?_⟩<;>first|(cases h;done)|try simp only [h])|fail))
   · have:v * 10+IntKind.u8.wrap ((x.toNat:Int) - 48)>1000000:=by simpa using h
     rw [hs,if_pos this];rfl
   · have:¬v * 10+IntKind.u8.wrap ((x.toNat:Int) - 48)>1000000:=by simpa using h
     rw [if_neg this] at hs
     exact ih (i+1,_) ⟨hlt,by simp only;omega,by simp only;omega,hs⟩ (by simp only;omega)
 · have hge:i=s.length:=by omega
   (repeat' (first|refine Run.ct rfl ?_|((first|refine Run.reg mixed ?_|refine Run.AJ ?_|refine Run.A9 OU (AM.le_refl _) ?_)<;>try simp -implicitDefEqProofs only [HQ hlt,go_sem])|fail))
   rw [hs,hge,List.drop_length,HV];rfl
end Go.Ab
namespace Go.Ab
open Go.Proofs
def FW (c:Int→Bool) (b:UInt8):Bool:=c b.toNat
theorem Je {c:UInt8→Bool} {s:Str} {i:Nat} (h:∀j b,j < i→s[j]?=some b→c b=true) (hi:i≤s.length) (he:∀b,s[i]?=some b→c b=false):s.takeWhile c=s.take i:=by
 induction i generalizing s with
 |zero=>
  cases s with
  |nil=>rfl
  |cons b r=>simp [he b rfl]
 |succ i ih=>
  cases s with
  |nil=>simp at hi
  |cons b r=>
   have hb:c b=true:=h 0 b (by omega) rfl
   rw [Fa,hb,if_pos rfl,T3,ih (fun j b hj hb=>h (j+1) b (by omega) hb) (by simpa using hi) (fun b hb=>he b hb)]
theorem Qs {fid:FuncId} (hb:Am Tryz.prog fid=true) (c:Int→Bool) (hc:∀n σ,AQ Tryz.prog fid [.d (.int .u8 n)] σ (fun v σ'=>v= .d (.bool (c n))∧σ'=σ)) (s:Str) (σ:AM) (hl:s.length≤1000000000):
 AQ Tryz.prog 114 [.d (.str s),.fn fid [] []] σ (fun v σ'=>v= .d (.str (s.takeWhile (FW c)))∧σ'=σ):=by
 refine YE (by simp) ?_
 rw [Ax]
 (repeat (first
   |refine Run.seq ?_
   |refine Run.skip ?_
   |refine Run.block ?_
   |refine Run.blk ?_
   |refine Run.scope ?_
   |refine Run.scp ?_
   |(refine Run.exit rfl ?_)
   |(refine Run.reg mixed ?_;simp -implicitDefEqProofs only [go_sem])
   |(refine Run.AJ ?_;simp -implicitDefEqProofs only [go_sem])))
 refine Run.Bl ?_
 refine Run.Bm ((fun (a0:AV) (a1:AV)=>fun (i:Nat)=>put 0 a0 (put 1 a1 (put 5 (.d (.int .i64 i)) U))) _ _) (fun _=>E) (fun _=>σ) (fun i=>i≤s.length∧∀j b,j < i→s[j]?=some b→FW c b=true) (fun i=>s.length - i) ?_ 0 ⟨by simp,by simp⟩
 rintro i ⟨hi,hs⟩ ih
 by_cases hlt:i < s.length
 · obtain ⟨x,hx⟩:=B4 hlt
   (repeat' (first|refine Run.ct rfl ?_|((first|refine Run.reg mixed ?_|refine Run.AJ ?_|(refine ⟨fid,[],[],rfl,hb,AI.det (hc _ _) ?_⟩)|refine Run.A9 NN (AM.le_refl _) ?_)<;>try simp -implicitDefEqProofs only [Bk hlt,Ml hx,cM hi,Cg (show i+1≤9000000000000000000 by omega),go_sem])|(refine ⟨fun h=>?_,fun h=>?_⟩<;>first|(cases h;done)|try simp only [h])|fail))
   · refine ih (i+1) ⟨hlt,fun j b hj hb=>?_⟩ (by omega)
     rcases E3 j i with h2|h2
     · exact hs j b h2 hb
     · have:j=i:=by omega
       subst this
       rw [hx] at hb;cases hb;exact h
   · rw [Je hs hi (fun b hb=>by rw [hx] at hb;cases hb;exact h)]
 · have hge:i=s.length:=by omega
   (repeat' (first|refine Run.ct rfl ?_|((first|refine Run.reg mixed ?_|refine Run.AJ ?_|refine Run.A9 NN (AM.le_refl _) ?_)<;>try simp -implicitDefEqProofs only [HQ hlt,cM hi,go_sem])|fail))
   rw [Je hs hi (fun b hb=>by rw [hge] at hb;simp at hb)]
end Go.Ab
namespace Go.Ab
open Go.Proofs
def FO:Str→Except Int (Int×Str)
 |[]=>.error 2
 |b::r=>
  if RO b.toNat||Pd b.toNat then
   if decide (((b::r).takeWhile (FW Nv)).length>24) then .error 9
                                  else if Pd b.toNat then .ok (2,(b::r).takeWhile (FW Nv))
                                  else if VM ((b::r).takeWhile (FW Nv)) then .ok (4,(b::r).takeWhile (FW Nv))
                                  else .ok (1,(b::r).takeWhile (FW Nv))
                                  else if Ix b.toNat then
   if b==48&&decide (((b::r).takeWhile (FW Ix)).length>1) then .error 2
                                         else if (HV ((b::r).takeWhile (FW Ix)) 0).isSome then .ok (3,(b::r).takeWhile (FW Ix))
                                         else .error 9
                                         else if (b::r).take (Sb (b::r))==[] then .error 2
                                         else .ok (5,(b::r).take (Sb (b::r)))
def n9 (k:Int) (t:Str) (p:Int):AV:= .agg [.d (.int .i64 k),.d (.str t),.d (.int .i64 p)]
def eZ (p:Int):Except Int (Int×Str)→AV
 | .error e=>.tup [n9 0 [] 0,.d (.int .i64 e)]
 | .ok (k,t)=>.tup [n9 k t p,.d (.int .i64 0)]
theorem IG {α:Type} (p:α→Bool) (l:List α):(l.takeWhile p).length≤l.length:=(List.takeWhile_prefix p).length_le
theorem AAT (b:UInt8):((b.toNat:Int)==48)=(b==48):=y6 b 48
theorem ABC (n:Nat):decide ((24:Int) < (n:Int))=decide (n>24):=decide_eq_decide.2 (by omega)
theorem gt1 (n:Nat):decide ((1:Int) < (n:Int))=decide (n>1):=decide_eq_decide.2 (by omega)
theorem lZ:Am Tryz.prog 115=true:=by kernel_rfl
theorem pS:Am Tryz.prog 117=true:=by kernel_rfl
theorem Tu (src:Str) (i:Nat) (σ:AM) (hl:src.length≤1000000000) (hi:i < src.length):
 AQ Tryz.prog 59 [.d (.str src),.d (.int .i64 i)] σ (fun v σ'=>v=eZ i (FO (src.drop i))∧σ'=σ):=by
 obtain ⟨b,hb⟩:=B4 hi
 have hd:=JR hb
 rw [hd]
 have hld:(src.drop i).length≤1000000000:=by simp;omega
 rw [hd] at hld
 have hw1:=IG (FW Nv) (b::src.drop (i+1))
 have hw2:=IG (FW Ix) (b::src.drop (i+1))
 have hs1:XK (.d (.str src)) (some (.d (.int .i64 (i:Int)))) none=some (.d (.str (b::src.drop (i+1)))):=by rw [yW (by omega),hd]
 refine bF (by simp) ?_
 rw [Ax]
 generalize src.drop (i+1)=r at *
 (repeat' (first|refine Run.ct rfl ?_|((first|refine Run.reg mixed ?_|refine Run.AJ ?_|refine Run.A9 VC (AM.le_refl _) ?_|refine AI.det (Se _ _) ?_|refine AI.det (Sf _ _) ?_|refine AI.det (Na _ _) ?_|refine AI.det (WV _ _) ?_|refine AI.det (Yw _ _ (by omega)) ?_|refine AI.det (Z5 _ _ (by simp)) ?_|refine AI.det (Qs (c:=Nv) lZ XM _ _ hld) ?_|refine AI.det (Qs (c:=Ix) pS Na _ _ hld) ?_|(refine AP rfl (fun h=>?_) (fun h=>?_)<;>try (cases h;done)))<;>try simp -implicitDefEqProofs only [Ml hb,hs1,AAT,ABC,gt1,go_sem])|(refine ⟨fun h=>?_,fun h=>?_⟩<;>first|(cases h;done)|try simp only [h])|fail))
 all_goals (clear hw1 hw2 hs1 hd hld;first|(simp only [FO,eZ,n9, *,Od,Bool.true_or,Mp,Bool.false_or,B0,DD,Bool.and_false,Bool.false_and,A1,reduceIte];done)|simp_all [FO,eZ,n9])
end Go.Ab
namespace Go.Ab
open Go.Proofs
structure Tok where
 kind:Int
 text:Str
 pos:Nat
def Tok.enc (t:Tok):List DV:=[.int .i64 t.kind,.str t.text,.int .i64 t.pos]
def cmt (s:Str):Nat:=(s.takeWhile (fun c=>!(c==10))).length
def E5:Nat→Str→Nat→List Tok→List Tok×Nat×Int
 |0,_,_,_=>([],0,0)
 |n+1,rest,i,acc=>match rest with
  |[]=>(acc++[⟨6,[],i⟩],0,0)
  |b::r=>
   if Wm b.toNat then E5 n r (i+1) acc
                               else if b==35 then E5 n ((b::r).drop (cmt (b::r))) (i+cmt (b::r)) acc
                               else match FO (b::r) with
    | .error e=>([],i,e)
    | .ok (k,t)=>E5 n ((b::r).drop t.length) (i+t.length) (acc++[⟨k,t,i⟩])
def BR (s:Str):List Tok×Nat×Int:=if s.length>16384 then ([],0,9) else E5 (s.length+1) s 0 []
def U5 (r:List Tok×Nat×Int):AV:= .tup [.d (.sl (r.1.map Tok.enc)),.d (.int .i64 r.2.1),.d (.int .i64 r.2.2)]
theorem jF (b:UInt8):((b.toNat:Int)==35)=(b==35):=y6 b 35
theorem sD (b:UInt8):((b.toNat:Int)==10)=(b==10):=y6 b 10
theorem AAH (n:Nat):decide ((16384:Int) < (n:Int))=decide (n>16384):=decide_eq_decide.2 (by omega)
theorem S8 {s:Str} {k:Int} {t:Str} (h:FO s= .ok (k,t)):1≤t.length∧t.length≤s.length:=by
 match s with
 |[]=>simp [FO] at h
 |b::r=>
  have h1:=IG (FW Nv) (b::r)
  have h2:=IG (FW Ix) (b::r)
  simp only [FO] at h
  split at h
  · rename_i hlu
    have hw:FW Nv b=true:=by
     simp only [FW,Nv];rw [hlu];rfl
    have h3:1≤((b::r).takeWhile (FW Nv)).length:=by simp [hw]
    split at h
    · cases h
    · split at h
      · cases h;exact ⟨h3,h1⟩
      · split at h<;>(cases h;exact ⟨h3,h1⟩)
  · split at h
    · rename_i hdg
      have h3:1≤((b::r).takeWhile (FW Ix)).length:=by simp [FW,hdg]
      split at h
      · cases h
      · split at h<;>cases h
        exact ⟨h3,h2⟩
    · split at h
      · cases h
      · rename_i hne
        cases h
        refine ⟨?_,List.length_take_le' _ _⟩
        cases he:(b::r).take (Sb (b::r)) with
        |nil=>rw [he] at hne;simp at hne
        |cons=>simp
theorem P5 {s:Str} {e:Int} (h:FO s= .error e):e=2∨e=9:=by
 match s with
 |[]=>simp only [FO,Except.error.injEq] at h;omega
 |b::r=>
  simp only [FO] at h
  repeat' split at h
  all_goals first|(cases h;simp;done)|cases h
theorem Sd (s:Str) (σ:AM):AQ Tryz.prog 21 [.d (.str s)] σ (fun v σ'=>v=U5 (BR s)∧σ'=σ):=by
 refine ZT (by simp) ?_
 rw [BO]
 (repeat' (first|refine Run.ct rfl ?_|((first|refine Run.reg mixed ?_|refine Run.AJ ?_|refine Run.A9 Bz (AM.le_refl _) ?_)<;>try simp -implicitDefEqProofs only [AAH,go_sem])|(refine ⟨fun h=>?_,fun h=>?_⟩<;>first|(cases h;done)|try simp only [h])|fail))
 · have:s.length>16384:=by simpa using h
   simp [U5,BR,this]
 · have hl:¬s.length>16384:=by simpa using h
   refine Run.Bl ?_
   refine Run.Bm ((fun (a0:AV)=>fun (y:Nat×AV×AM)=>put 0 a0 (put 5 (y.2.1) (put 6 (.d (.int .i64 y.1)) U))) _) (fun _=>E) (fun y=>y.2.2) (fun y=>y.1≤s.length∧∃acc n,FC σ 38 3 (acc.map Tok.enc) y.2.1 y.2.2∧acc.length≤y.1∧s.length - y.1 < n∧BR s=E5 n (s.drop y.1) y.1 acc) (fun y=>s.length - y.1) ?_ (0,.AW,σ) ⟨by simp,[],s.length+1,FC.nil _ _ _,by simp,by simp,by simp [BR,hl]⟩
   rintro ⟨i,v,σ1⟩ ⟨hi,acc,n,ho,hac,hn,hs⟩ ih
   simp only at hi ho hac hn hs
   obtain ⟨n,rfl⟩:∃m,n=m+1:=⟨n - 1,by omega⟩
   by_cases hlt:i < s.length
   · obtain ⟨x,hx⟩:=B4 hlt
     rw [JR hx,E5] at hs
     have hw1:=Cg (show i+1≤9000000000000000000 by omega)
     have hsl:(x::s.drop (i+1)).length=s.length - i:=by simp;omega
     cases hb:Wm x.toNat with
     |true=>
      rw [hb] at hs
      (repeat' (first|refine Run.ct rfl ?_|((first|refine Run.reg mixed ?_|refine Run.AJ ?_|refine Run.A9 Bz (AM.le_refl _) ?_|refine AI.det (Jf _ _) ?_)<;>try simp -implicitDefEqProofs only [Bk hlt,Ml hx,hb,hw1,go_sem])|fail))
      exact ih (i+1,v,σ1) ⟨hlt,acc,n,ho,by simp only;omega,by simp only;omega,hs⟩ (by simp only;omega)
     |false=>
      rw [hb,if_neg (by simp)] at hs
      cases hc:(x==35) with
      |true=>
       rw [hc,if_pos rfl] at hs
       (repeat' (first|refine Run.ct rfl ?_|((first|refine Run.reg mixed ?_|refine Run.AJ ?_|refine Run.A9 Bz (AM.le_refl _) ?_|refine AI.det (Jf _ _) ?_)<;>try simp -implicitDefEqProofs only [Bk hlt,Ml hx,jF,hb,hc,go_sem])|fail))
       refine Run.wN [0,5,6] ?_;simp -implicitDefEqProofs only [go_sem]
       refine Run.Bl ?_
       refine Run.Bm ((fun (a0:AV) (a5:AV)=>fun (j:Nat)=>put 0 a0 (put 5 a5 (put 6 (.d (.int .i64 j)) U))) _ _) (fun _=>E) (fun _=>σ1) (fun j=>i≤j∧j≤s.length∧∀q b,q < j - i→(s.drop i)[q]?=some b→(!(b==10))=true) (fun j=>s.length - j) ?_ i ⟨A8 i,hi,by intro q b hq;omega⟩
       rintro j ⟨hij,hj,hall⟩ ih2
       have hw2:=Cg (show j+1≤9000000000000000000 by omega)
       by_cases hjl:j < s.length
       · obtain ⟨z,hz⟩:=B4 hjl
         have hz2:(s.drop i)[j - i]?=some z:=by rw [Dq,show i+(j - i)=j by omega];exact hz
         cases h10:(z==10) with
         |true=>
          (repeat' (first|refine Run.ct rfl ?_|((first|refine Run.reg mixed ?_|refine Run.AJ ?_|refine Run.A9 Bz (AM.le_refl _) ?_)<;>try simp -implicitDefEqProofs only [Bk hjl,Ml hz,sD,h10,go_sem])|fail))
          have hk:cmt (x::s.drop (i+1))=j - i:=by
           rw [← JR hx,cmt,Je hall (by simp;omega) (fun b hb=>by rw [hz2] at hb;cases hb;simp [h10])]
           simp;omega
          have hji:j≠i:=fun e=>by
           subst e
           rw [hx] at hz;cases hz
           simp only [beq_iff_eq] at hc h10
           rw [hc] at h10;exact absurd h10 (by decide)
          rw [hk,← JR hx,Cv,show i+(j - i)=j by omega] at hs
          refine Run.wN [0,5,6] ?_;simp -implicitDefEqProofs only [go_sem]
          exact ih (j,v,σ1) ⟨hj,acc,n,ho,by simp only;omega,by simp only;omega,hs⟩ (by simp only;omega)
         |false=>
          (repeat' (first|refine Run.ct rfl ?_|((first|refine Run.reg mixed ?_|refine Run.AJ ?_|refine Run.A9 Bz (AM.le_refl _) ?_)<;>try simp -implicitDefEqProofs only [Bk hjl,Ml hz,sD,h10,hw2,go_sem])|fail))
          refine ih2 (j+1) ⟨by omega,hjl,fun q b hq hb=>?_⟩ (by omega)
          rcases E3 q (j - i) with h2|h2
          · exact hall q b h2 hb
          · have:q=j - i:=by omega
            subst this
            rw [hz2] at hb;cases hb;simp [h10]
       · have hje:j=s.length:=by omega
         have hk:cmt (x::s.drop (i+1))=j - i:=by
          rw [← JR hx,cmt,Je hall (by simp;omega) (fun b hb=>by rw [Dq,show i+(j - i)=j by omega,hje] at hb;simp at hb)]
          simp;omega
         rw [hk,← JR hx,Cv,show i+(j - i)=j by omega,hje,List.drop_length] at hs
         obtain ⟨n,rfl⟩:∃m,n=m+1:=⟨n - 1,by omega⟩
         rw [E5] at hs
         (repeat' (first|refine Run.ct rfl ?_|((first|refine Run.reg mixed ?_|refine Run.AJ ?_|(refine Oj.own ho rfl (by simp) (by simp;omega) (by decide) (fun v2 σ2 ho2 hbk=>?_))|(refine Run.A9 Bz ho2.le ?_)|refine Run.A9 Bz (AM.le_refl _) ?_)<;>try simp -implicitDefEqProofs only [HQ hjl,go_sem])|fail))
         simp -implicitDefEqProofs only [ho2.Av,ho2.plain,go_sem]
         rw [hs];simp [U5,Tok.enc]
      |false=>
       rw [hc,if_neg (by simp)] at hs
       rcases hsc:FO (x::s.drop (i+1)) with e|⟨k,t⟩
       · rw [hsc] at hs
         have he:=P5 hsc
         have hne:(e != 0)=true:=by simp;omega
         (repeat' (first|refine Run.ct rfl ?_|((first|refine Run.reg mixed ?_|refine Run.AJ ?_|(refine Run.A9 Bz ho.le ?_)|refine Run.A9 Bz (AM.le_refl _) ?_|refine AI.det (Jf _ _) ?_|refine AI.det (Tu _ _ _ (by omega) hlt) ?_)<;>try simp -implicitDefEqProofs only [Bk hlt,Ml hx,jF,hb,hc,JR hx,hsc,eZ,n9,hne,ho.BQ,A1,go_sem])|fail))
         rw [hs];rfl
       · rw [hsc] at hs
         have hsn:=S8 hsc
         rw [hsl] at hsn
         (repeat' (first|refine Run.ct rfl ?_|((first|refine Run.reg mixed ?_|refine Run.AJ ?_|(refine Oj.own ho rfl (by simp) (by simp;omega) (by decide) (fun v2 σ2 ho2 hbk=>?_))|refine Run.A9 Bz (AM.le_refl _) ?_|refine AI.det (Jf _ _) ?_|refine AI.det (Tu _ _ _ (by omega) hlt) ?_)<;>try simp -implicitDefEqProofs only [Bk hlt,Ml hx,jF,hb,hc,JR hx,hsc,eZ,n9,ho.BQ,A1,wrap_add (show i+t.length≤9000000000000000000 by omega),go_sem])|(refine ⟨fun h=>?_,fun h=>?_⟩<;>first|(cases h;done)|try simp only [h])|fail))
         refine ih (i+t.length,v2,σ2) ⟨?_,acc++[⟨k,t,i⟩],n,?_,?_,?_,?_⟩ ?_
         · simp only;omega
         · simpa [Tok.enc] using ho2
         · simp only [AA,List.length_singleton];omega
         · simp only;omega
         · rw [hs];simp only;rw [← JR hx,Cv]
         · simp only;omega
   · have hge:i=s.length:=by omega
     rw [hge,List.drop_length,E5] at hs
     (repeat' (first|refine Run.ct rfl ?_|((first|refine Run.reg mixed ?_|refine Run.AJ ?_|(refine Oj.own ho rfl (by simp) (by simp;omega) (by decide) (fun v2 σ2 ho2 hbk=>?_))|(refine Run.A9 Bz ho2.le ?_)|refine Run.A9 Bz (AM.le_refl _) ?_)<;>try simp -implicitDefEqProofs only [HQ hlt,go_sem])|fail))
     simp -implicitDefEqProofs only [ho2.Av,ho2.plain,go_sem]
     rw [hs];simp [U5,Tok.enc]
end Go.Ab
namespace Go.Ab
structure PSt where
 r:List Tok
 f:Bool
 p:Nat
def U8:Tok:=⟨6,[],0⟩
def PSt.hd (s:PSt):Tok:=s.r.headD U8
def PSt.adv (s:PSt):PSt:=⟨s.r.tail,s.f,s.p⟩
def VO (r:List Tok):List Tok:=r.drop (r.length - 1)
def PSt.fail (s:PSt):PSt:=⟨VO s.r,true,if s.f then s.p else s.hd.pos⟩
def WF:List Tok→Prop
 |[]=>False
 |[t]=>t.kind=6∧t.text=[]
 |t::l=>(t.kind≠6∧t.text≠[])∧WF l
theorem WF.ne {r:List Tok} (h:WF r):r≠[]:=by rintro rfl;exact h
theorem WF.tail {t:Tok} {l:List Tok} (h:WF (t::l)) (hk:t.kind≠6∨t.text≠[]):WF l:=by
 cases l with
 |nil=>simp only [WF] at h;rcases hk with hk|hk<;>simp_all
 |cons u l=>exact h.2
theorem WF.last:∀ {r:List Tok},WF r→WF (VO r)
 |[],h=>h.elim
 |[t],h=>h
 |t::u::l,h=>by
  have:=WF.last (r:=u::l) h.2
  unfold VO at this ⊢
  simp only [AE,Nat.add_sub_cancel] at this ⊢
  rw [List.drop_succ_cons]
  exact this
theorem qC (r:List Tok):VO r <:+r:=List.drop_suffix _ _
theorem Sh {s:PSt} (h:WF s.r) (hk:s.hd.kind≠6∨s.hd.text≠[]):WF s.adv.r∧s.adv.r <:+s.r:=by
 obtain ⟨r,f,p⟩:=s
 cases r with
 |nil=>exact h.elim
 |cons t l=>exact ⟨h.tail hk,List.suffix_cons t l⟩
theorem V7 {s:PSt} (h:WF s.r):WF s.fail.r∧s.fail.r <:+s.r:=⟨h.last,qC _⟩
def strip (r:List Tok):List (Int×Str):=r.map fun t=>(t.kind,t.text)
theorem V4:∀ {r r':List Tok},strip r=strip r'→(r.headD U8).kind=(r'.headD U8).kind∧(r.headD U8).text=(r'.headD U8).text
 |[],[],_=>⟨rfl,rfl⟩
 |[],_::_,h=>by simp [strip] at h
 |_::_,[],h=>by simp [strip] at h
 |t::l,u::m,h=>by
  simp only [strip,AD,List.cons.injEq,BY] at h
  exact ⟨h.1.1,h.1.2⟩
theorem Yp {r r':List Tok} (h:strip r=strip r'):strip r.tail=strip r'.tail:=by
 have:=congrArg List.tail h
 simpa only [strip,List.map_tail] using this
theorem Yo {r r':List Tok} (h:strip r=strip r'):strip (VO r)=strip (VO r'):=by
 have hl:r.length=r'.length:=by simpa [strip] using congrArg Re h
 have:=congrArg (Gu (r.length - 1)) h
 simpa only [strip,VO,List.map_drop,hl] using this
theorem nZ {a l t:List Tok} (h:a <:+l++t) (hl:t.length≤a.length):∃m,a=m++t∧m <:+l:=by
 obtain ⟨pre,h⟩:=h
 have h1:pre.length≤l.length:=by
  have:=congrArg Re h
  simp only [AA] at this;omega
 refine ⟨l.drop pre.length,?_,List.drop_suffix _ _⟩
 have:=congrArg (Gu pre.length) h
 rw [List.drop_left,List.drop_append_of_le_length h1] at this
 exact this
structure PM (α:Type) where
 run:PSt→α×PSt
 st:∀s,s.f=true→(run s).2.f=true∧(run s).2.p=s.p
 sf:∀s,WF s.r→WF (run s).2.r∧(run s).2.r <:+s.r
 pm:∀s s',strip s.r=strip s'.r→s.f=s'.f→(run s).1=(run s').1∧strip (run s).2.r=strip (run s').2.r∧(run s).2.f=(run s').2.f
 fr:∀(l t1 t2:List Tok) (f:Bool) (p:Nat) (l':List Tok),l'≠[]→WF (l++t1)→(run ⟨l++t1,f,p⟩).2.f=false→(run ⟨l++t1,f,p⟩).2.r=l'++t1→(run ⟨l++t2,f,p⟩)=((run ⟨l++t1,f,p⟩).1,⟨l'++t2,false,(run ⟨l++t1,f,p⟩).2.p⟩)
theorem fT {l l' t:List Tok} {a:List Tok} (h:a <:+l++t) (e:a=l'++t) (hn:l'≠[]):l≠[]:=by
 rintro rfl
 have:=h.length_le
 rw [e,AA,A0] at this
 cases l' with
 |nil=>exact hn rfl
 |cons x l'=>simp at this;omega
namespace PM
variable {α β:Type}
def pure (a:α):PM α:=⟨fun s=>(a,s),fun _ h=>⟨h,rfl⟩,fun _ h=>⟨h,List.suffix_refl _⟩,fun _ _ h k=>⟨rfl,h,k⟩,fun l t1 t2 f p l' _ _ hf hr=>by
 simp only at hf hr ⊢
 rw [List.append_cancel_right hr,hf]⟩
def bind (m:PM α) (k:α→PM β):PM β:=
 ⟨fun s=>(k (m.run s).1).run (m.run s).2,fun s h=>by
   obtain ⟨h1,h2⟩:=m.st s h
   obtain ⟨h3,h4⟩:=(k (m.run s).1).st _ h1
   exact ⟨h3,h4.trans h2⟩,fun s h=>by
   obtain ⟨h1,h2⟩:=m.sf s h
   obtain ⟨h3,h4⟩:=(k (m.run s).1).sf _ h1
   exact ⟨h3,h4.trans h2⟩,fun s s' h hf=>by
   obtain ⟨h1,h2,h3⟩:=m.pm s s' h hf
   have:=(k (m.run s).1).pm _ _ h2 h3
   rw [h1] at this ⊢
   exact this,fun l t1 t2 f p l' hn hw hf hr=>by
   have s1f:(m.run ⟨l++t1,f,p⟩).2.f=false:=by
    cases hc:(m.run ⟨l++t1,f,p⟩).2.f with
    |false=>rfl
    |true=>have:=((k (m.run ⟨l++t1,f,p⟩).1).st _ hc).1;rw [hf] at this;cases this
   obtain ⟨w1,u1⟩:=m.sf ⟨l++t1,f,p⟩ hw
   obtain ⟨w2,u2⟩:=(k (m.run ⟨l++t1,f,p⟩).1).sf _ w1
   have hl:=u2.length_le
   rw [hr,AA] at hl
   obtain ⟨l1,e1,_⟩:=nZ u1 (by omega)
   have hn1:l1≠[]:=by
    rintro rfl
    rw [e1] at hl
    cases l' with
    |nil=>exact hn rfl
    |cons x l'=>simp at hl;omega
   have em:=m.fr l t1 t2 f p l1 hn1 hw s1f e1
   rw [em]
   simp only
   generalize m.run ⟨l++t1,f,p⟩=x at *
   obtain ⟨a,r,g,q⟩:=x
   simp only at *
   subst e1 s1f
   exact (k a).fr l1 t1 t2 false q l' hn w1 hf hr⟩
def acc (t:Str) (ht:t≠[]) (y n:PM α):PM α:=
 ⟨fun s=>if s.hd.text==t then y.run s.adv else n.run s,fun s h=>by
   split
   · exact y.st s.adv h
   · exact n.st s h,fun s h=>by
   split
   · rename_i e
     rw [beq_iff_eq] at e
     obtain ⟨h1,h2⟩:=Sh h (.inr (by rw [e];exact ht))
     obtain ⟨h3,h4⟩:=y.sf s.adv h1
     exact ⟨h3,h4.trans h2⟩
   · exact n.sf s h,fun s s' h hf=>by
   have e:s.hd.text=s'.hd.text:=(V4 h).2
   rw [e]
   split
   · exact y.pm s.adv s'.adv (Yp h) hf
   · exact n.pm s s' h hf,fun l t1 t2 f p l' hn hw hf hr=>by
   cases l with
   |nil=>
    exfalso
    have hs:(if (PSt.mk ([]++t1) f p).hd.text==t then y.run (PSt.mk ([]++t1) f p).adv else n.run ⟨[]++t1,f,p⟩).2.r <:+[]++t1:=by
     split
     · rename_i e
       rw [beq_iff_eq] at e
       obtain ⟨h1,h2⟩:=Sh (s:=⟨[]++t1,f,p⟩) hw (.inr (by rw [e];exact ht))
       exact (y.sf _ h1).2.trans h2
     · exact (n.sf ⟨[]++t1,f,p⟩ hw).2
    exact fT hs hr hn rfl
   |cons x l0=>
    have h1:∀t,(PSt.mk (x::l0++t) f p).hd=x:=fun _=>rfl
    have h2:∀t,(PSt.mk (x::l0++t) f p).adv=⟨l0++t,f,p⟩:=fun _=>rfl
    simp only [h1,h2] at hf hr ⊢
    split
    · rename_i e
      rw [if_pos e] at hf hr
      rw [beq_iff_eq] at e
      exact y.fr l0 t1 t2 f p l' hn (hw.tail (.inr (by rw [e];exact ht))) hf hr
    · rename_i e
      rw [if_neg e] at hf hr
      exact n.fr (x::l0) t1 t2 f p l' hn hw hf hr⟩
def kind (k:Int) (y n:PM α):PM α:=
 ⟨fun s=>if s.hd.kind==k then y.run s else n.run s,fun s h=>by
   split
   · exact y.st s h
   · exact n.st s h,fun s h=>by
   split
   · exact y.sf s h
   · exact n.sf s h,fun s s' h hf=>by
   have e:s.hd.kind=s'.hd.kind:=(V4 h).1
   rw [e]
   split
   · exact y.pm s s' h hf
   · exact n.pm s s' h hf,fun l t1 t2 f p l' hn hw hf hr=>by
   cases l with
   |nil=>
    exfalso
    have hs:(if (PSt.mk ([]++t1) f p).hd.kind==k then y.run ⟨[]++t1,f,p⟩ else n.run ⟨[]++t1,f,p⟩).2.r <:+[]++t1:=by
     split
     · exact (y.sf ⟨[]++t1,f,p⟩ hw).2
     · exact (n.sf ⟨[]++t1,f,p⟩ hw).2
    exact fT hs hr hn rfl
   |cons x l0=>
    have h1:∀t,(PSt.mk (x::l0++t) f p).hd=x:=fun _=>rfl
    simp only [h1] at hf hr ⊢
    split
    · rename_i e
      rw [if_pos e] at hf hr
      exact y.fr (x::l0) t1 t2 f p l' hn hw hf hr
    · rename_i e
      rw [if_neg e] at hf hr
      exact n.fr (x::l0) t1 t2 f p l' hn hw hf hr⟩
def fail (a:α):PM α:=⟨fun s=>(a,s.fail),fun s h=>⟨rfl,by simp [PSt.fail,h]⟩,fun s h=>V7 h,fun s s' h hf=>⟨rfl,Yo h,rfl⟩,fun l t1 t2 f p l' hn hw hf hr=>by cases hf⟩
def tok (c:Int→Str→Bool) (hc:∀k t,c k t=true→k≠6∨t≠[]) (g:Str→α) (b:α):PM α:=
 ⟨fun s=>if c s.hd.kind s.hd.text then (g s.hd.text,s.adv) else (b,s.fail),fun s hf=>by
   split
   · exact ⟨hf,rfl⟩
   · exact ⟨rfl,by simp [PSt.fail,hf]⟩,fun s hw=>by
   split
   · rename_i e;exact Sh hw (hc _ _ e)
   · exact V7 hw,fun s s' h hf=>by
   have e1:s.hd.kind=s'.hd.kind:=(V4 h).1
   have e2:s.hd.text=s'.hd.text:=(V4 h).2
   rw [e1,e2]
   split
   · exact ⟨rfl,Yp h,hf⟩
   · exact ⟨rfl,Yo h,rfl⟩,fun l t1 t2 f p l' hn hw hf hr=>by
   cases l with
   |nil=>
    exfalso
    have hs:(if c (PSt.mk ([]++t1) f p).hd.kind (PSt.mk ([]++t1) f p).hd.text then (g (PSt.mk ([]++t1) f p).hd.text,(PSt.mk ([]++t1) f p).adv) else (b,PSt.fail ⟨[]++t1,f,p⟩)).2.r <:+[]++t1:=by
     split
     · rename_i e;exact (Sh (s:=⟨[]++t1,f,p⟩) hw (hc _ _ e)).2
     · exact (V7 (s:=⟨[]++t1,f,p⟩) hw).2
    exact fT hs hr hn rfl
   |cons x l0=>
    have h1:∀t,(PSt.mk (x::l0++t) f p).hd=x:=fun _=>rfl
    have h2:∀t,(PSt.mk (x::l0++t) f p).adv=⟨l0++t,f,p⟩:=fun _=>rfl
    simp only [h1,h2] at hf hr ⊢
    split
    · rename_i e
      rw [if_pos e] at hf hr
      simp only at hf hr ⊢
      rw [List.append_cancel_right hr,hf]
    · rename_i e
      rw [if_neg e] at hf
      cases hf⟩
def exp (t:Str) (ht:t≠[]):PM Unit:=tok (fun _ u=>u==t) (fun _ u h=>.inr (by rw [beq_iff_eq] at h;rw [h];exact ht)) (fun _=>()) ()
def take (k:Int) (hk:k≠6):PM Str:=tok (fun q _=>q==k) (fun q _ h=>.inl (by rw [beq_iff_eq] at h;rw [h];exact hk)) id []
def map (g:α→β) (m:PM α):PM β:=m.bind fun a=>pure (g a)
end PM
theorem j3:∃n:Nat,20000≤n:=⟨20000,A8 _⟩
noncomputable def BE:Nat:=Classical.choose j3
theorem Fk:20000≤BE:=Classical.choose_spec j3
def EZ {α:Type} (read:PM α) (t:Str) (ht:t≠[]):Nat→List α→PM (List α)
 |0,l=>.pure l
 |n+1,l=>.acc t ht (read.bind fun x=>EZ read t ht n (l++[x])) (.pure l)
noncomputable def items {α:Type} (read:PM α) (t:Str) (ht:t≠[]):PM (List α):=read.bind fun x=>EZ read t ht BE [x]
noncomputable def listed {α:Type} (read:PM α):PM (List α):=(items read [44] (by decide)).bind fun l=>(PM.exp [41] (by decide)).bind fun _=>.pure l
noncomputable def closed {α:Type} (read:PM α):PM (List α):= .acc [41] (by decide) (.pure []) (listed read)
noncomputable def I7 {α:Type} (read:PM α):PM (List α):= .acc [40] (by decide) (listed read) (.pure [])
def Fs:PM Str:= .take 1 (by decide)
def F3:PM Str:= .take 2 (by decide)
def G2:PM Str:= .acc [95] (by decide) (.pure []) Fs
def RP (s:Str):Int:=(HV s 0).getD 0
def Jn:PM Int:=(PM.take 3 (by decide)).map RP
@[reducible] def GA (t:Str) (ht:t≠[]:=by decide):PM Unit:= .exp t ht
@[reducible] def EV {α:Type} (t:Str) (y n:PM α) (ht:t≠[]:=by decide):PM α:= .acc t ht y n
def SU (k:Int) (T:PM TE):PM TE:=(GA [40]).bind fun _=>T.bind fun t=>(GA [41]).bind fun _=>.pure (.mk k [] [t])
noncomputable def GB:Nat→PM TE
 |0=>.fail (.mk 0 [] [])
 |n+1=>
  .kind 1 (Fs.bind fun x=>.pure (.mk 4 x [])) <|
  .kind 2 (F3.bind fun x=>(I7 (GB n)).bind fun l=>.pure (.mk 5 x l)) <|
  EV [105,110,116] (.pure (.mk 1 [] [])) <|
  EV [98,111,111,108] (.pure (.mk 2 [] [])) <|
  EV [117,110,105,116] (.pure (.mk 3 [] [])) <|
  EV [97,114,114,97,121] (SU 7 (GB n)) <|
  EV [114,101,102] (SU 8 (GB n)) <|
  EV [40] ((GB n).bind fun a=>(GA [44]).bind fun _=>(listed (GB n)).bind fun l=>.pure (.mk 6 [] (a::l))) <|
  EV [102,110] ((GA [40]).bind fun _=>(closed (GB n)).bind fun l=>(GA [45,62]).bind fun _=>(GB n).bind fun t=>.pure (.mk 9 [] (l++[t]))) <|
  .fail (.mk 0 [] [])
def exN (o u:Int) (ks:List Ex):Ex:= .mk o [] u [] ks []
noncomputable def eO (E:PM Ex):PM Ex:=
 EV [40] (G2.bind fun a=>(GA [44]).bind fun _=>(listed G2).bind fun l=>(GA [61]).bind fun _=>E.bind fun x=>(GA [105,110]).bind fun _=>E.bind fun y=>.pure (.mk 8 [] 0 (a::l) [x,y] []))
  (G2.bind fun a=>(GA [61]).bind fun _=>E.bind fun x=>(GA [105,110]).bind fun _=>E.bind fun y=>.pure (.mk 7 a 0 [] [x,y] []))
noncomputable def iD (E:PM Ex):PM Al:=F3.bind fun c=>(I7 G2).bind fun l=>(GA [45,62]).bind fun _=>E.bind fun x=>.pure (.mk c l x)
def VV:Nat→Str
 |1=>[43]|2=>[45]|3=>[42]|4=>[47]|5=>[37]|6=>[60]|7=>[60,61]|_=>[61,61]
def O4 (E:PM Ex):PM (List Ex):=(GA [40]).bind fun _=>E.bind fun x=>(GA [41]).bind fun _=>.pure [x]
def SS (E:PM Ex):PM (List Ex):=(GA [40]).bind fun _=>E.bind fun x=>(GA [44]).bind fun _=>E.bind fun y=>(GA [41]).bind fun _=>.pure [x,y]
def bY (E:PM Ex):PM (List Ex):=(GA [40]).bind fun _=>E.bind fun x=>(GA [44]).bind fun _=>E.bind fun y=>(GA [44]).bind fun _=>E.bind fun z=>(GA [41]).bind fun _=>.pure [x,y,z]
noncomputable def bZ (E:PM Ex):PM Ex:=
 EV [41] (.pure (exN 1 0 [])) (E.bind fun x=>EV [41] (.pure x) ((GA [44]).bind fun _=>(listed E).bind fun l=>.pure (exN 5 0 (x::l))))
def Zx:PM Ex:=(GA [40]).bind fun _=>(EV [45] (Jn.map fun n=>-n) Jn).bind fun n=>(GA [41]).bind fun _=>.pure (exN 15 n [])
noncomputable def Ip (E:PM Ex):PM Ex:=
 .kind 3 (Jn.bind fun n=>.pure (exN 3 n [])) <|
 .kind 1 (Fs.bind fun x=>.pure (.mk 4 x 0 [] [] [])) <|
 .kind 2 (F3.bind fun x=>(I7 E).bind fun l=>.pure (.mk 6 x 0 [] l [])) <|
 EV [45] (Jn.bind fun n=>.pure (exN 3 (-n) [])) <|
 EV [116,114,117,101] (.pure (exN 2 1 [])) <|
 EV [102,97,108,115,101] (.pure (exN 2 0 [])) <|
 EV [40] (bZ E) <|
 EV [116,105,99,107] Zx <|
 EV [114,97,105,115,101] ((O4 E).bind fun l=>.pure (exN 16 0 l)) <|
 EV [110,101,119] ((SS E).bind fun l=>.pure (exN 14 1 l)) <|
 EV [103,101,116] ((SS E).bind fun l=>.pure (exN 14 2 l)) <|
 EV [115,101,116] ((bY E).bind fun l=>.pure (exN 14 3 l)) <|
 EV [108,101,110] ((O4 E).bind fun l=>.pure (exN 14 4 l)) <|
 EV [114,101,102] ((O4 E).bind fun l=>.pure (exN 14 5 l)) <|
 EV [114,101,97,100] ((O4 E).bind fun l=>.pure (exN 14 6 l)) <|
 EV [119,114,105,116,101] ((SS E).bind fun l=>.pure (exN 14 7 l)) <|
 .fail (exN 0 0 [])
noncomputable def UA (E:PM Ex):Nat→Ex→PM Ex
 |0,a=>.pure a
 |n+1,a=>EV [40] ((closed E).bind fun l=>UA E n (exN 12 0 (a::l))) (.pure a)
noncomputable def RQ (E:PM Ex):PM Ex:=(Ip E).bind fun a=>UA E BE a
def Hk (op:Int) (a b:Ex):Ex:=exN 13 op [a,b]
noncomputable def KU (E:PM Ex):Nat→Ex→PM Ex
 |0,a=>.pure a
 |n+1,a=>
  EV [42] ((RQ E).bind fun b=>KU E n (Hk 3 a b)) <|
  EV [47] ((RQ E).bind fun b=>KU E n (Hk 4 a b)) <|
  EV [37] ((RQ E).bind fun b=>KU E n (Hk 5 a b)) <|
  .pure a
noncomputable def MT (E:PM Ex):PM Ex:=(RQ E).bind fun a=>KU E BE a
noncomputable def TX (E:PM Ex):Nat→Ex→PM Ex
 |0,a=>.pure a
 |n+1,a=>
  EV [43] ((MT E).bind fun b=>TX E n (Hk 1 a b)) <|
  EV [45] ((MT E).bind fun b=>TX E n (Hk 2 a b)) <|
  .pure a
noncomputable def L4 (E:PM Ex):PM Ex:=(MT E).bind fun a=>TX E BE a
noncomputable def Wc (E:PM Ex):PM Ex:=(L4 E).bind fun a=>
 EV [60] ((L4 E).bind fun b=>.pure (Hk 6 a b)) <|
 EV [60,61] ((L4 E).bind fun b=>.pure (Hk 7 a b)) <|
 EV [61,61] ((L4 E).bind fun b=>.pure (Hk 8 a b)) <|
 .pure a
noncomputable def CB:Nat→PM Ex
 |0=>.fail (exN 0 0 [])
 |n+1=>
  EV [108,101,116] (eO (CB n)) <|
  EV [105,102] ((CB n).bind fun a=>(GA [116,104,101,110]).bind fun _=>(CB n).bind fun b=>(GA [101,108,115,101]).bind fun _=>(CB n).bind fun c=>.pure (exN 9 0 [a,b,c])) <|
  EV [109,97,116,99,104] ((CB n).bind fun a=>(GA [119,105,116,104]).bind fun _=>(items (iD (CB n)) [124] (by decide)).bind fun l=>(GA [101,110,100]).bind fun _=>.pure (.mk 10 [] 0 [] [a] l)) <|
  EV [102,110] ((GA [40]).bind fun _=>(closed Fs).bind fun l=>(GA [45,62]).bind fun _=>(CB n).bind fun a=>.pure (.mk 11 [] 0 l [a] [])) <|
  EV [116,114,121] ((CB n).bind fun a=>(GA [99,97,116,99,104]).bind fun _=>G2.bind fun x=>(GA [45,62]).bind fun _=>(CB n).bind fun b=>(GA [101,110,100]).bind fun _=>.pure (.mk 17 x 0 [] [a,b] [])) <|
  Wc (CB n)
noncomputable def tyR:PM TE:=GB BE
noncomputable def exR:PM Ex:=CB BE
noncomputable def eN:PM CE:=F3.bind fun c=>(I7 tyR).bind fun l=>.pure ⟨c,l⟩
noncomputable def Tp:PM DE:=F3.bind fun d=>(I7 Fs).bind fun vs=>(GA [61]).bind fun _=>(items eN [124] (by decide)).bind fun cs=>(GA [59]).bind fun _=>.pure ⟨d,vs,cs⟩
noncomputable def Z0:PM FE:=Fs.bind fun f=>(GA [40]).bind fun _=>(closed Fs).bind fun ps=>(GA [61]).bind fun _=>exR.bind fun b=>(GA [59]).bind fun _=>.pure ⟨f,ps,b⟩
noncomputable def MU:Nat→List DE→List FE→PM Pg
 |0,ds,fs=>.pure ⟨ds,fs⟩
 |n+1,ds,fs=>
  .kind 6 (.pure ⟨ds,fs⟩) <|
  EV [100,97,116,97] (Tp.bind fun d=>MU n (ds++[d]) fs) <|
  EV [102,117,110] (Z0.bind fun f=>MU n ds (fs++[f])) <|
  (PM.fail ()).bind fun _=>MU n ds fs
noncomputable def N0:PM Pg:=MU BE [] []
end Go.Ab
