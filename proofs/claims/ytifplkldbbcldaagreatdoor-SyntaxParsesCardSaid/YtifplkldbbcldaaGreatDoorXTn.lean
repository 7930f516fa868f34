/- Prefixes and tokens. One token. Texts split into tokens. The parser in plain data: its steps. Conditions: none. -/
import Derived.Test.YtifplkldbbcldaaGreatDoorXLfP
set_option linter.unusedSimpArgs false
set_option linter.unusedVariables false
set_option maxRecDepth 4000
set_option maxHeartbeats 8000000
open List renaming takeWhile_cons→Mb,take_succ_cons→UN,getElem?_drop→BM,drop_drop→DC,drop_length→Ra,length_append→AA,length_cons→AG,map_cons→AB,nil_append→A6,suffix_refl→Lx
open Nat renaming lt_or_ge→Ea,le_refl→A4
open Bool renaming or_false→NA,and_true→BR,and_false→G6,false_eq_true→AL
open Prod.mk renaming injEq→Ba
namespace Go.Ab
open Go.Proofs
def Da (c:Int→Bool) (b:UInt8):Bool:=c b.toNat
theorem Ey {c:UInt8→Bool} {s:Str} {i:Nat} (h:∀j b,j < i→s[j]?=some b→c b=true) (hi:i≤s.length) (he:∀b,s[i]?=some b→c b=false):s.takeWhile c=s.take i:=by
 induction i generalizing s with
 |zero=>
  cases s with
  |nil=>rfl
  |cons b r=>simp [he b rfl]
 |succ i ih=>
  cases s with
  |nil=>simp at hi
  |cons b r=>
   have hb:c b=true:=h 0 b (by omega) rfl
   rw [Mb,hb,if_pos rfl,UN,ih (fun j b hj hb=>h (j+1) b (by omega) hb) (by simpa using hi) (fun b hb=>he b hb)]
theorem R8 {fid:FuncId} (hb:Av Tryz.prog fid=true) (c:Int→Bool) (hc:∀n σ,AP Tryz.prog fid [.d (.int .u8 n)] σ (fun v σ'=>v= .d (.bool (c n))∧σ'=σ)) (s:Str) (σ:AK) (hl:s.length≤1000000000):
 AP Tryz.prog 114 [.d (.str s),.fn fid [] []] σ (fun v σ'=>v= .d (.str (s.takeWhile (Da c)))∧σ'=σ):=by
 refine Zp (by simp) ?_
 rw [BH]
 (repeat (first
   |refine Run.seq ?_
   |refine Run.skip ?_
   |refine Run.block ?_
   |refine Run.blk ?_
   |refine Run.scope ?_
   |refine Run.scp ?_
   |(refine Run.exit rfl ?_)
   |(refine rgQ mxQ ?_;simp -implicitDefEqProofs only [go_sem])
   |(refine cdQ ?_;simp -implicitDefEqProofs only [go_sem])))
 refine Run.BU ?_
 refine Run.BZ ((fun (a0:AV) (a1:AV)=>fun (i:Nat)=>put 0 a0 (put 1 a1 (put 5 (.d (.int .i64 i)) U))) _ _) (fun _=>E) (fun _=>σ) (fun i=>i≤s.length∧∀j b,j < i→s[j]?=some b→Da c b=true) (fun i=>s.length - i) ?_ 0 ⟨by simp,by simp⟩
 rintro i ⟨hi,hs⟩ ih
 by_cases hlt:i < s.length
 · obtain ⟨x,hx⟩:=CF hlt
   (repeat' (first|refine ctQ rfl ?_|((first|refine rgQ mxQ ?_|refine cdQ ?_|(refine ⟨fid,[],[],rfl,hb,AD.det (hc _ _) ?_⟩)|refine Run.A2 NU (AK.le_refl _) ?_)<;>try simp -implicitDefEqProofs only [B1 hlt,DL hx,gU hi,BV (show i+1≤9000000000000000000 by omega),go_sem])|(refine ⟨fun h=>?_,fun h=>?_⟩<;>first|(cases h;done)|try simp only [h])|fail))
   · refine ih (i+1) ⟨hlt,fun j b hj hb=>?_⟩ (by omega)
     rcases Ea j i with h2|h2
     · exact hs j b h2 hb
     · have:j=i:=by omega
       subst this
       rw [hx] at hb;cases hb;exact h
   · rw [Ey hs hi (fun b hb=>by rw [hx] at hb;cases hb;exact h)]
 · have hge:i=s.length:=by omega
   (repeat' (first|refine ctQ rfl ?_|((first|refine rgQ mxQ ?_|refine cdQ ?_|refine Run.A2 NU (AK.le_refl _) ?_)<;>try simp -implicitDefEqProofs only [Ff hlt,gU hi,go_sem])|fail))
   rw [Ey hs hi (fun b hb=>by rw [hge] at hb;simp at hb)]
theorem nG (s:Str) (σ:AK) (hs:s≠[]):AP Tryz.prog 74 [.d (.str s)] σ (fun v σ'=>v= .d (.int .i64 (IV s))∧σ'=σ):=by
 have hloop:∀(b:UInt8) (r:Str),(IV (b::r)=gR b)→Run Mz (fun v σ'=>v= .d (.int .i64 (IV (b::r)))∧σ'=σ) [.again V7,.blk 0,.code (.seq (.reg [⟨some 2,.mv (.c (.d (.int .i64 0))),none⟩] [2]) .ret)] (put 0 (.d (.str (b::r))) (put 3 (.d (.str bC)) (put 4 (.d (.int .i64 0)) U))) E σ:=by
  intro b r hbr
  refine Run.BZ ((fun (a0:AV) (a3:AV)=>fun (i:Nat)=>put 0 a0 (put 3 a3 (put 4 (.d (.int .i64 i)) U))) _ _) (fun _=>E) (fun _=>σ) (fun i=>i≤bC.length∧bC.any (b==·)=(bC.drop i).any (b==·)) (fun i=>bC.length - i) ?_ 0 ⟨by simp,rfl⟩
  rintro i ⟨hi,hs⟩ ih
  have hn:bC.length=13:=rfl
  have h0:(b::r)[0]?=some b:=rfl
  by_cases hlt:i < bC.length
  · obtain ⟨x,hx⟩:=CF hlt
    rw [Ej hx,List.any_cons] at hs
    have hz:=DL h0 .i64
    rw [show ((0:Nat):Int)=0 from rfl] at hz
    (repeat' (first|refine ctQ rfl ?_|((first|refine rgQ mxQ ?_|refine cdQ ?_|refine Run.A2 PE (AK.le_refl _) ?_)<;>try simp -implicitDefEqProofs only [B1 hlt,DL hx,hz,AA3,BV (show i+1≤9000000000000000000 by omega),go_sem])|(refine ⟨fun h=>?_,fun h=>?_⟩<;>first|(cases h;done)|try simp only [h])|fail))
    · rw [hbr,gR,hs,h];rfl
    · exact ih (i+1) ⟨hlt,by rw [hs,h];rfl⟩ (by omega)
  · have hge:i=bC.length:=by omega
    (repeat' (first|refine ctQ rfl ?_|((first|refine rgQ mxQ ?_|refine cdQ ?_|refine Run.A2 PE (AK.le_refl _) ?_)<;>try simp -implicitDefEqProofs only [Ff hlt,go_sem])|fail))
    rw [hbr,gR,hs,hge];rfl
 match s,hs with
 |[b],_=>
  refine eB (by simp) ?_
  rw [Ar]
  (repeat' (first|refine ctQ rfl ?_|((first|refine rgQ mxQ ?_|refine cdQ ?_|refine Run.A2 PE (AK.le_refl _) ?_)<;>try simp -implicitDefEqProofs only [ABT,go_sem])|fail))
  exact Run.BU (hloop b [] rfl)
 |b::c::r,_=>
  refine eB (by simp) ?_
  rw [Ar]
  (repeat' (first|refine ctQ rfl ?_|((first|refine rgQ mxQ ?_|refine cdQ ?_|refine Run.A2 PE (AK.le_refl _) ?_|(refine GS rfl (fun h=>?_) (fun h=>?_)<;>try (cases h;done)))<;>try simp -implicitDefEqProofs only [ABU,ABZ,go_sem])|(refine ⟨fun h=>?_,fun h=>?_⟩<;>first|(cases h;done)|try simp only [h])|fail))
  all_goals (first|exact Run.BU (hloop b (c::r) (by simp only [IV,xC, *];rfl))|(simp only [IV,xC, *];rfl))
end Go.Ab
namespace Go.Ab
open Go.Proofs
def FK:Str→Except Int (Int×Str)
 |[]=>.error 2
 |b::r=>
  if Vx b.toNat||UL b.toNat then
   if decide (((b::r).takeWhile (Da IX)).length>24) then .error 9
                                  else if UL b.toNat then .ok (2,(b::r).takeWhile (Da IX))
                                  else if dD ((b::r).takeWhile (Da IX)) then .ok (4,(b::r).takeWhile (Da IX))
                                  else .ok (1,(b::r).takeWhile (Da IX))
                                  else if Gd b.toNat then
   if b==48&&decide (((b::r).takeWhile (Da Gd)).length>1) then .error 2
                                         else if (IW ((b::r).takeWhile (Da Gd)) 0).isSome then .ok (3,(b::r).takeWhile (Da Gd))
                                         else .error 9
                                         else if (b::r).take (IV (b::r))==[] then .error 2
                                         else .ok (5,(b::r).take (IV (b::r)))
def tC (k:Int) (t:Str) (p:Int):AV:= .agg [.d (.int .i64 k),.d (.str t),.d (.int .i64 p)]
def j9 (p:Int):Except Int (Int×Str)→AV
 | .error e=>.tup [tC 0 [] 0,.d (.int .i64 e)]
 | .ok (k,t)=>.tup [tC k t p,.d (.int .i64 0)]
theorem Eo {α:Type} (p:α→Bool) (l:List α):(l.takeWhile p).length≤l.length:=(List.takeWhile_prefix p).length_le
theorem xY (b:UInt8):((b.toNat:Int)==48)=(b==48):=AA3 b 48
theorem AEZ (n:Nat):decide ((24:Int) < (n:Int))=decide (n>24):=decide_eq_decide.2 (by omega)
theorem gt1 (n:Nat):decide ((1:Int) < (n:Int))=decide (n>1):=decide_eq_decide.2 (by omega)
theorem rE:Av Tryz.prog 115=true:=by kernel_rfl
theorem uQ:Av Tryz.prog 117=true:=by kernel_rfl
theorem Ui (src:Str) (i:Nat) (σ:AK) (hl:src.length≤1000000000) (hi:i < src.length):
 AP Tryz.prog 59 [.d (.str src),.d (.int .i64 i)] σ (fun v σ'=>v=j9 i (FK (src.drop i))∧σ'=σ):=by
 obtain ⟨b,hb⟩:=CF hi
 have hd:=Ej hb
 rw [hd]
 have hld:(src.drop i).length≤1000000000:=by simp;omega
 rw [hd] at hld
 have hw1:=Eo (Da IX) (b::src.drop (i+1))
 have hw2:=Eo (Da Gd) (b::src.drop (i+1))
 have hs1:TS (.d (.str src)) (some (.d (.int .i64 (i:Int)))) none=some (.d (.str (b::src.drop (i+1)))):=by rw [xM (by omega),hd]
 refine fV (by simp) ?_
 rw [BH]
 generalize src.drop (i+1)=r at *
 (repeat' (first|refine ctQ rfl ?_|((first|refine rgQ mxQ ?_|refine cdQ ?_|refine Run.A2 Vl (AK.le_refl _) ?_|refine AD.det (TV _ _) ?_|refine AD.det (TW _ _) ?_|refine AD.det (Nf _ _) ?_|refine AD.det (Xa _ _) ?_|refine AD.det (bX _ _ (by omega)) ?_|refine AD.det (dL _ _ (by simp)) ?_|refine AD.det (R8 (c:=IX) rE Yi _ _ hld) ?_|refine AD.det (R8 (c:=Gd) uQ Nf _ _ hld) ?_|(refine GS rfl (fun h=>?_) (fun h=>?_)<;>try (cases h;done)))<;>try simp -implicitDefEqProofs only [DL hb,hs1,xY,AEZ,gt1,go_sem])|(refine ⟨fun h=>?_,fun h=>?_⟩<;>first|(cases h;done)|try simp only [h])|fail))
 all_goals (clear hw1 hw2 hs1 hd hld;first|(simp only [FK,j9,tC, *,Bool.or_true,Bool.true_or,NA,BR,G6,Bool.false_and,AL,reduceIte];done)|simp_all [FK,j9,tC])
end Go.Ab
namespace Go.Ab
open Go.Proofs
structure Tok where
 kind:Int
 text:Str
 pos:Nat
def Tok.enc (t:Tok):List DV:=[.int .i64 t.kind,.str t.text,.int .i64 t.pos]
def cmt (s:Str):Nat:=(s.takeWhile (fun c=>!(c==10))).length
def EG:Nat→Str→Nat→List Tok→List Tok×Nat×Int
 |0,_,_,_=>([],0,0)
 |n+1,rest,i,acc=>match rest with
  |[]=>(acc++[⟨6,[],i⟩],0,0)
  |b::r=>
   if k8 b.toNat then EG n r (i+1) acc
                               else if b==35 then EG n ((b::r).drop (cmt (b::r))) (i+cmt (b::r)) acc
                               else match FK (b::r) with
    | .error e=>([],i,e)
    | .ok (k,t)=>EG n ((b::r).drop t.length) (i+t.length) (acc++[⟨k,t,i⟩])
def Au (s:Str):List Tok×Nat×Int:=if s.length>16384 then ([],0,9) else EG (s.length+1) s 0 []
def Gy (r:List Tok×Nat×Int):AV:= .tup [.d (.sl (r.1.map Tok.enc)),.d (.int .i64 r.2.1),.d (.int .i64 r.2.2)]
theorem RH (b:UInt8):((b.toNat:Int)==35)=(b==35):=AA3 b 35
theorem gX (b:UInt8):((b.toNat:Int)==10)=(b==10):=AA3 b 10
theorem uN (n:Nat):decide ((16384:Int) < (n:Int))=decide (n>16384):=decide_eq_decide.2 (by omega)
theorem TP {s:Str} {k:Int} {t:Str} (h:FK s= .ok (k,t)):1≤t.length∧t.length≤s.length:=by
 match s with
 |[]=>simp [FK] at h
 |b::r=>
  have h1:=Eo (Da IX) (b::r)
  have h2:=Eo (Da Gd) (b::r)
  simp only [FK] at h
  split at h
  · rename_i hlu
    have hw:Da IX b=true:=by
     simp only [Da,IX];rw [hlu];rfl
    have h3:1≤((b::r).takeWhile (Da IX)).length:=by simp [hw]
    split at h
    · cases h
    · split at h
      · cases h;exact ⟨h3,h1⟩
      · split at h<;>(cases h;exact ⟨h3,h1⟩)
  · split at h
    · rename_i hdg
      have h3:1≤((b::r).takeWhile (Da Gd)).length:=by simp [Da,hdg]
      split at h
      · cases h
      · split at h<;>cases h
        exact ⟨h3,h2⟩
    · split at h
      · cases h
      · rename_i hne
        cases h
        refine ⟨?_,List.length_take_le' _ _⟩
        cases he:(b::r).take (IV (b::r)) with
        |nil=>rw [he] at hne;simp at hne
        |cons=>simp
theorem Pm {s:Str} {e:Int} (h:FK s= .error e):e=2∨e=9:=by
 match s with
 |[]=>simp only [FK,Except.error.injEq] at h;omega
 |b::r=>
  simp only [FK] at h
  repeat' split at h
  all_goals first|(cases h;simp;done)|cases h
theorem TU (s:Str) (σ:AK):AP Tryz.prog 21 [.d (.str s)] σ (fun v σ'=>v=Gy (Au s)∧σ'=σ):=by
 refine cY (by simp) ?_
 rw [Ar]
 (repeat' (first|refine ctQ rfl ?_|((first|refine rgQ mxQ ?_|refine cdQ ?_|refine Run.A2 CL (AK.le_refl _) ?_)<;>try simp -implicitDefEqProofs only [uN,go_sem])|(refine ⟨fun h=>?_,fun h=>?_⟩<;>first|(cases h;done)|try simp only [h])|fail))
 · have:s.length>16384:=by simpa using h
   simp [Gy,Au,this]
 · have hl:¬s.length>16384:=by simpa using h
   refine Run.BU ?_
   refine Run.BZ ((fun (a0:AV)=>fun (y:Nat×AV×AK)=>put 0 a0 (put 5 (y.2.1) (put 6 (.d (.int .i64 y.1)) U))) _) (fun _=>E) (fun y=>y.2.2) (fun y=>y.1≤s.length∧∃acc n,Cg σ 38 3 (acc.map Tok.enc) y.2.1 y.2.2∧acc.length≤y.1∧s.length - y.1 < n∧Au s=EG n (s.drop y.1) y.1 acc) (fun y=>s.length - y.1) ?_ (0,.AO,σ) ⟨by simp,[],s.length+1,Cg.nil _ _ _,by simp,by simp,by simp [Au,hl]⟩
   rintro ⟨i,v,σ1⟩ ⟨hi,acc,n,ho,hac,hn,hs⟩ ih
   simp only at hi ho hac hn hs
   obtain ⟨n,rfl⟩:∃m,n=m+1:=⟨n - 1,by omega⟩
   by_cases hlt:i < s.length
   · obtain ⟨x,hx⟩:=CF hlt
     rw [Ej hx,EG] at hs
     have hw1:=BV (show i+1≤9000000000000000000 by omega)
     have hsl:(x::s.drop (i+1)).length=s.length - i:=by simp;omega
     cases hb:k8 x.toNat with
     |true=>
      rw [hb] at hs
      (repeat' (first|refine ctQ rfl ?_|((first|refine rgQ mxQ ?_|refine cdQ ?_|refine Run.A2 CL (AK.le_refl _) ?_|refine AD.det (Jm _ _) ?_)<;>try simp -implicitDefEqProofs only [B1 hlt,DL hx,hb,hw1,go_sem])|fail))
      exact ih (i+1,v,σ1) ⟨hlt,acc,n,ho,by simp only;omega,by simp only;omega,hs⟩ (by simp only;omega)
     |false=>
      rw [hb,if_neg (by simp)] at hs
      cases hc:(x==35) with
      |true=>
       rw [hc,if_pos rfl] at hs
       (repeat' (first|refine ctQ rfl ?_|((first|refine rgQ mxQ ?_|refine cdQ ?_|refine Run.A2 CL (AK.le_refl _) ?_|refine AD.det (Jm _ _) ?_)<;>try simp -implicitDefEqProofs only [B1 hlt,DL hx,RH,hb,hc,go_sem])|fail))
       refine Run.Lg [0,5,6] ?_;simp -implicitDefEqProofs only [go_sem]
       refine Run.BU ?_
       refine Run.BZ ((fun (a0:AV) (a5:AV)=>fun (j:Nat)=>put 0 a0 (put 5 a5 (put 6 (.d (.int .i64 j)) U))) _ _) (fun _=>E) (fun _=>σ1) (fun j=>i≤j∧j≤s.length∧∀q b,q < j - i→(s.drop i)[q]?=some b→(!(b==10))=true) (fun j=>s.length - j) ?_ i ⟨A4 i,hi,by intro q b hq;omega⟩
       rintro j ⟨hij,hj,hall⟩ ih2
       have hw2:=BV (show j+1≤9000000000000000000 by omega)
       by_cases hjl:j < s.length
       · obtain ⟨z,hz⟩:=CF hjl
         have hz2:(s.drop i)[j - i]?=some z:=by rw [BM,show i+(j - i)=j by omega];exact hz
         cases h10:(z==10) with
         |true=>
          (repeat' (first|refine ctQ rfl ?_|((first|refine rgQ mxQ ?_|refine cdQ ?_|refine Run.A2 CL (AK.le_refl _) ?_)<;>try simp -implicitDefEqProofs only [B1 hjl,DL hz,gX,h10,go_sem])|fail))
          have hk:cmt (x::s.drop (i+1))=j - i:=by
           rw [← Ej hx,cmt,Ey hall (by simp;omega) (fun b hb=>by rw [hz2] at hb;cases hb;simp [h10])]
           simp;omega
          have hji:j≠i:=fun e=>by
           subst e
           rw [hx] at hz;cases hz
           simp only [beq_iff_eq] at hc h10
           rw [hc] at h10;exact absurd h10 (by decide)
          rw [hk,← Ej hx,DC,show i+(j - i)=j by omega] at hs
          refine Run.Lg [0,5,6] ?_;simp -implicitDefEqProofs only [go_sem]
          exact ih (j,v,σ1) ⟨hj,acc,n,ho,by simp only;omega,by simp only;omega,hs⟩ (by simp only;omega)
         |false=>
          (repeat' (first|refine ctQ rfl ?_|((first|refine rgQ mxQ ?_|refine cdQ ?_|refine Run.A2 CL (AK.le_refl _) ?_)<;>try simp -implicitDefEqProofs only [B1 hjl,DL hz,gX,h10,hw2,go_sem])|fail))
          refine ih2 (j+1) ⟨by omega,hjl,fun q b hq hb=>?_⟩ (by omega)
          rcases Ea q (j - i) with h2|h2
          · exact hall q b h2 hb
          · have:q=j - i:=by omega
            subst this
            rw [hz2] at hb;cases hb;simp [h10]
       · have hje:j=s.length:=by omega
         have hk:cmt (x::s.drop (i+1))=j - i:=by
          rw [← Ej hx,cmt,Ey hall (by simp;omega) (fun b hb=>by rw [BM,show i+(j - i)=j by omega,hje] at hb;simp at hb)]
          simp;omega
         rw [hk,← Ej hx,DC,show i+(j - i)=j by omega,hje,Ra] at hs
         obtain ⟨n,rfl⟩:∃m,n=m+1:=⟨n - 1,by omega⟩
         rw [EG] at hs
         (repeat' (first|refine ctQ rfl ?_|((first|refine rgQ mxQ ?_|refine cdQ ?_|(refine JJ.own ho rfl (by simp) (by simp;omega) (by decide) (fun v2 σ2 ho2 hbk=>?_))|(refine Run.A2 CL ho2.le ?_)|refine Run.A2 CL (AK.le_refl _) ?_)<;>try simp -implicitDefEqProofs only [Ff hjl,go_sem])|fail))
         simp -implicitDefEqProofs only [ho2.BL,ho2.plain,go_sem]
         rw [hs];simp [Gy,Tok.enc]
      |false=>
       rw [hc,if_neg (by simp)] at hs
       rcases hsc:FK (x::s.drop (i+1)) with e|⟨k,t⟩
       · rw [hsc] at hs
         have he:=Pm hsc
         have hne:(e != 0)=true:=by simp;omega
         (repeat' (first|refine ctQ rfl ?_|((first|refine rgQ mxQ ?_|refine cdQ ?_|(refine Run.A2 CL ho.le ?_)|refine Run.A2 CL (AK.le_refl _) ?_|refine AD.det (Jm _ _) ?_|refine AD.det (Ui _ _ _ (by omega) hlt) ?_)<;>try simp -implicitDefEqProofs only [B1 hlt,DL hx,RH,hb,hc,Ej hx,hsc,j9,tC,hne,ho.DF,AL,go_sem])|fail))
         rw [hs];rfl
       · rw [hsc] at hs
         have hsn:=TP hsc
         rw [hsl] at hsn
         (repeat' (first|refine ctQ rfl ?_|((first|refine rgQ mxQ ?_|refine cdQ ?_|(refine JJ.own ho rfl (by simp) (by simp;omega) (by decide) (fun v2 σ2 ho2 hbk=>?_))|refine Run.A2 CL (AK.le_refl _) ?_|refine AD.det (Jm _ _) ?_|refine AD.det (Ui _ _ _ (by omega) hlt) ?_)<;>try simp -implicitDefEqProofs only [B1 hlt,DL hx,RH,hb,hc,Ej hx,hsc,j9,tC,ho.DF,AL,wrap_add (show i+t.length≤9000000000000000000 by omega),go_sem])|(refine ⟨fun h=>?_,fun h=>?_⟩<;>first|(cases h;done)|try simp only [h])|fail))
         refine ih (i+t.length,v2,σ2) ⟨?_,acc++[⟨k,t,i⟩],n,?_,?_,?_,?_⟩ ?_
         · simp only;omega
         · simpa [Tok.enc] using ho2
         · simp only [AA,List.length_singleton];omega
         · simp only;omega
         · rw [hs];simp only;rw [← Ej hx,DC]
         · simp only;omega
   · have hge:i=s.length:=by omega
     rw [hge,Ra,EG] at hs
     (repeat' (first|refine ctQ rfl ?_|((first|refine rgQ mxQ ?_|refine cdQ ?_|(refine JJ.own ho rfl (by simp) (by simp;omega) (by decide) (fun v2 σ2 ho2 hbk=>?_))|(refine Run.A2 CL ho2.le ?_)|refine Run.A2 CL (AK.le_refl _) ?_)<;>try simp -implicitDefEqProofs only [Ff hlt,go_sem])|fail))
     simp -implicitDefEqProofs only [ho2.BL,ho2.plain,go_sem]
     rw [hs];simp [Gy,Tok.enc]
end Go.Ab
namespace Go.Ab
structure PSt where
 r:List Tok
 f:Bool
 p:Nat
def C6:Tok:=⟨6,[],0⟩
def PSt.hd (s:PSt):Tok:=s.r.headD C6
def PSt.adv (s:PSt):PSt:=⟨s.r.tail,s.f,s.p⟩
def Vu (r:List Tok):List Tok:=r.drop (r.length - 1)
def PSt.fail (s:PSt):PSt:=⟨Vu s.r,true,if s.f then s.p else s.hd.pos⟩
def WF:List Tok→Prop
 |[]=>False
 |[t]=>t.kind=6∧t.text=[]
 |t::l=>(t.kind≠6∧t.text≠[])∧WF l
theorem WF.ne {r:List Tok} (h:WF r):r≠[]:=by rintro rfl;exact h
theorem WF.tail {t:Tok} {l:List Tok} (h:WF (t::l)) (hk:t.kind≠6∨t.text≠[]):WF l:=by
 cases l with
 |nil=>simp only [WF] at h;rcases hk with hk|hk<;>simp_all
 |cons u l=>exact h.2
theorem WF.last:∀ {r:List Tok},WF r→WF (Vu r)
 |[],h=>h.elim
 |[t],h=>h
 |t::u::l,h=>by
  have:=WF.last (r:=u::l) h.2
  unfold Vu at this ⊢
  simp only [AG,Nat.add_sub_cancel] at this ⊢
  rw [List.drop_succ_cons]
  exact this
theorem vB (r:List Tok):Vu r <:+r:=List.drop_suffix _ _
theorem MP {s:PSt} (h:WF s.r) (hk:s.hd.kind≠6∨s.hd.text≠[]):WF s.adv.r∧s.adv.r <:+s.r:=by
 obtain ⟨r,f,p⟩:=s
 cases r with
 |nil=>exact h.elim
 |cons t l=>exact ⟨h.tail hk,List.suffix_cons t l⟩
theorem W5 {s:PSt} (h:WF s.r):WF s.fail.r∧s.fail.r <:+s.r:=⟨h.last,vB _⟩
def strip (r:List Tok):List (Int×Str):=r.map fun t=>(t.kind,t.text)
theorem W1:∀ {r r':List Tok},strip r=strip r'→(r.headD C6).kind=(r'.headD C6).kind∧(r.headD C6).text=(r'.headD C6).text
 |[],[],_=>⟨rfl,rfl⟩
 |[],_::_,h=>by simp [strip] at h
 |_::_,[],h=>by simp [strip] at h
 |t::l,u::m,h=>by
  simp only [strip,AB,List.cons.injEq,Ba] at h
  exact ⟨h.1.1,h.1.2⟩
theorem bP {r r':List Tok} (h:strip r=strip r'):strip r.tail=strip r'.tail:=by
 have:=congrArg List.tail h
 simpa only [strip,List.map_tail] using this
theorem bO {r r':List Tok} (h:strip r=strip r'):strip (Vu r)=strip (Vu r'):=by
 have hl:r.length=r'.length:=by simpa [strip] using congrArg List.length h
 have:=congrArg (List.drop (r.length - 1)) h
 simpa only [strip,Vu,List.map_drop,hl] using this
theorem tA {a l t:List Tok} (h:a <:+l++t) (hl:t.length≤a.length):∃m,a=m++t∧m <:+l:=by
 obtain ⟨pre,h⟩:=h
 have h1:pre.length≤l.length:=by
  have:=congrArg List.length h
  simp only [AA] at this;omega
 refine ⟨l.drop pre.length,?_,List.drop_suffix _ _⟩
 have:=congrArg (List.drop pre.length) h
 rw [List.drop_left,List.drop_append_of_le_length h1] at this
 exact this
structure PM (α:Type) where
 run:PSt→α×PSt
 st:∀s,s.f=true→(run s).2.f=true∧(run s).2.p=s.p
 sf:∀s,WF s.r→WF (run s).2.r∧(run s).2.r <:+s.r
 pm:∀s s',strip s.r=strip s'.r→s.f=s'.f→(run s).1=(run s').1∧strip (run s).2.r=strip (run s').2.r∧(run s).2.f=(run s').2.f
 fr:∀(l t1 t2:List Tok) (f:Bool) (p:Nat) (l':List Tok),l'≠[]→WF (l++t1)→(run ⟨l++t1,f,p⟩).2.f=false→(run ⟨l++t1,f,p⟩).2.r=l'++t1→(run ⟨l++t2,f,p⟩)=((run ⟨l++t1,f,p⟩).1,⟨l'++t2,false,(run ⟨l++t1,f,p⟩).2.p⟩)
theorem kW {l l' t:List Tok} {a:List Tok} (h:a <:+l++t) (e:a=l'++t) (hn:l'≠[]):l≠[]:=by
 rintro rfl
 have:=h.length_le
 rw [e,AA,A6] at this
 cases l' with
 |nil=>exact hn rfl
 |cons x l'=>simp at this;omega
namespace PM
variable {α β:Type}
def pure (a:α):PM α:=⟨fun s=>(a,s),fun _ h=>⟨h,rfl⟩,fun _ h=>⟨h,Lx _⟩,fun _ _ h k=>⟨rfl,h,k⟩,fun l t1 t2 f p l' _ _ hf hr=>by
 simp only at hf hr ⊢
 rw [List.append_cancel_right hr,hf]⟩
def bind (m:PM α) (k:α→PM β):PM β:=
 ⟨fun s=>(k (m.run s).1).run (m.run s).2,fun s h=>by
   obtain ⟨h1,h2⟩:=m.st s h
   obtain ⟨h3,h4⟩:=(k (m.run s).1).st _ h1
   exact ⟨h3,h4.trans h2⟩,fun s h=>by
   obtain ⟨h1,h2⟩:=m.sf s h
   obtain ⟨h3,h4⟩:=(k (m.run s).1).sf _ h1
   exact ⟨h3,h4.trans h2⟩,fun s s' h hf=>by
   obtain ⟨h1,h2,h3⟩:=m.pm s s' h hf
   have:=(k (m.run s).1).pm _ _ h2 h3
   rw [h1] at this ⊢
   exact this,fun l t1 t2 f p l' hn hw hf hr=>by
   have s1f:(m.run ⟨l++t1,f,p⟩).2.f=false:=by
    cases hc:(m.run ⟨l++t1,f,p⟩).2.f with
    |false=>rfl
    |true=>have:=((k (m.run ⟨l++t1,f,p⟩).1).st _ hc).1;rw [hf] at this;cases this
   obtain ⟨w1,u1⟩:=m.sf ⟨l++t1,f,p⟩ hw
   obtain ⟨w2,u2⟩:=(k (m.run ⟨l++t1,f,p⟩).1).sf _ w1
   have hl:=u2.length_le
   rw [hr,AA] at hl
   obtain ⟨l1,e1,_⟩:=tA u1 (by omega)
   have hn1:l1≠[]:=by
    rintro rfl
    rw [e1] at hl
    cases l' with
    |nil=>exact hn rfl
    |cons x l'=>simp at hl;omega
   have em:=m.fr l t1 t2 f p l1 hn1 hw s1f e1
   rw [em]
   simp only
   generalize m.run ⟨l++t1,f,p⟩=x at *
   obtain ⟨a,r,g,q⟩:=x
   simp only at *
   subst e1 s1f
   exact (k a).fr l1 t1 t2 false q l' hn w1 hf hr⟩
def acc (t:Str) (ht:t≠[]) (y n:PM α):PM α:=
 ⟨fun s=>if s.hd.text==t then y.run s.adv else n.run s,fun s h=>by
   split
   · exact y.st s.adv h
   · exact n.st s h,fun s h=>by
   split
   · rename_i e
     rw [beq_iff_eq] at e
     obtain ⟨h1,h2⟩:=MP h (.inr (by rw [e];exact ht))
     obtain ⟨h3,h4⟩:=y.sf s.adv h1
     exact ⟨h3,h4.trans h2⟩
   · exact n.sf s h,fun s s' h hf=>by
   have e:s.hd.text=s'.hd.text:=(W1 h).2
   rw [e]
   split
   · exact y.pm s.adv s'.adv (bP h) hf
   · exact n.pm s s' h hf,fun l t1 t2 f p l' hn hw hf hr=>by
   cases l with
   |nil=>
    exfalso
    have hs:(if (PSt.mk ([]++t1) f p).hd.text==t then y.run (PSt.mk ([]++t1) f p).adv else n.run ⟨[]++t1,f,p⟩).2.r <:+[]++t1:=by
     split
     · rename_i e
       rw [beq_iff_eq] at e
       obtain ⟨h1,h2⟩:=MP (s:=⟨[]++t1,f,p⟩) hw (.inr (by rw [e];exact ht))
       exact (y.sf _ h1).2.trans h2
     · exact (n.sf ⟨[]++t1,f,p⟩ hw).2
    exact kW hs hr hn rfl
   |cons x l0=>
    have h1:∀t,(PSt.mk (x::l0++t) f p).hd=x:=fun _=>rfl
    have h2:∀t,(PSt.mk (x::l0++t) f p).adv=⟨l0++t,f,p⟩:=fun _=>rfl
    simp only [h1,h2] at hf hr ⊢
    split
    · rename_i e
      rw [if_pos e] at hf hr
      rw [beq_iff_eq] at e
      exact y.fr l0 t1 t2 f p l' hn (hw.tail (.inr (by rw [e];exact ht))) hf hr
    · rename_i e
      rw [if_neg e] at hf hr
      exact n.fr (x::l0) t1 t2 f p l' hn hw hf hr⟩
def kind (k:Int) (y n:PM α):PM α:=
 ⟨fun s=>if s.hd.kind==k then y.run s else n.run s,fun s h=>by
   split
   · exact y.st s h
   · exact n.st s h,fun s h=>by
   split
   · exact y.sf s h
   · exact n.sf s h,fun s s' h hf=>by
   have e:s.hd.kind=s'.hd.kind:=(W1 h).1
   rw [e]
   split
   · exact y.pm s s' h hf
   · exact n.pm s s' h hf,fun l t1 t2 f p l' hn hw hf hr=>by
   cases l with
   |nil=>
    exfalso
    have hs:(if (PSt.mk ([]++t1) f p).hd.kind==k then y.run ⟨[]++t1,f,p⟩ else n.run ⟨[]++t1,f,p⟩).2.r <:+[]++t1:=by
     split
     · exact (y.sf ⟨[]++t1,f,p⟩ hw).2
     · exact (n.sf ⟨[]++t1,f,p⟩ hw).2
    exact kW hs hr hn rfl
   |cons x l0=>
    have h1:∀t,(PSt.mk (x::l0++t) f p).hd=x:=fun _=>rfl
    simp only [h1] at hf hr ⊢
    split
    · rename_i e
      rw [if_pos e] at hf hr
      exact y.fr (x::l0) t1 t2 f p l' hn hw hf hr
    · rename_i e
      rw [if_neg e] at hf hr
      exact n.fr (x::l0) t1 t2 f p l' hn hw hf hr⟩
def fail (a:α):PM α:=⟨fun s=>(a,s.fail),fun s h=>⟨rfl,by simp [PSt.fail,h]⟩,fun s h=>W5 h,fun s s' h hf=>⟨rfl,bO h,rfl⟩,fun l t1 t2 f p l' hn hw hf hr=>by cases hf⟩
def tok (c:Int→Str→Bool) (hc:∀k t,c k t=true→k≠6∨t≠[]) (g:Str→α) (b:α):PM α:=
 ⟨fun s=>if c s.hd.kind s.hd.text then (g s.hd.text,s.adv) else (b,s.fail),fun s hf=>by
   split
   · exact ⟨hf,rfl⟩
   · exact ⟨rfl,by simp [PSt.fail,hf]⟩,fun s hw=>by
   split
   · rename_i e;exact MP hw (hc _ _ e)
   · exact W5 hw,fun s s' h hf=>by
   have e1:s.hd.kind=s'.hd.kind:=(W1 h).1
   have e2:s.hd.text=s'.hd.text:=(W1 h).2
   rw [e1,e2]
   split
   · exact ⟨rfl,bP h,hf⟩
   · exact ⟨rfl,bO h,rfl⟩,fun l t1 t2 f p l' hn hw hf hr=>by
   cases l with
   |nil=>
    exfalso
    have hs:(if c (PSt.mk ([]++t1) f p).hd.kind (PSt.mk ([]++t1) f p).hd.text then (g (PSt.mk ([]++t1) f p).hd.text,(PSt.mk ([]++t1) f p).adv) else (b,PSt.fail ⟨[]++t1,f,p⟩)).2.r <:+[]++t1:=by
     split
     · rename_i e;exact (MP (s:=⟨[]++t1,f,p⟩) hw (hc _ _ e)).2
     · exact (W5 (s:=⟨[]++t1,f,p⟩) hw).2
    exact kW hs hr hn rfl
   |cons x l0=>
    have h1:∀t,(PSt.mk (x::l0++t) f p).hd=x:=fun _=>rfl
    have h2:∀t,(PSt.mk (x::l0++t) f p).adv=⟨l0++t,f,p⟩:=fun _=>rfl
    simp only [h1,h2] at hf hr ⊢
    split
    · rename_i e
      rw [if_pos e] at hf hr
      simp only at hf hr ⊢
      rw [List.append_cancel_right hr,hf]
    · rename_i e
      rw [if_neg e] at hf
      cases hf⟩
def exp (t:Str) (ht:t≠[]):PM Unit:=tok (fun _ u=>u==t) (fun _ u h=>.inr (by rw [beq_iff_eq] at h;rw [h];exact ht)) (fun _=>()) ()
def take (k:Int) (hk:k≠6):PM Str:=tok (fun q _=>q==k) (fun q _ h=>.inl (by rw [beq_iff_eq] at h;rw [h];exact hk)) id []
def map (g:α→β) (m:PM α):PM β:=m.bind fun a=>pure (g a)
end PM
theorem oT:∃n:Nat,20000≤n:=⟨20000,A4 _⟩
noncomputable def Af:Nat:=Classical.choose oT
theorem Bo:20000≤Af:=Classical.choose_spec oT
def Bp {α:Type} (read:PM α) (t:Str) (ht:t≠[]):Nat→List α→PM (List α)
 |0,l=>.pure l
 |n+1,l=>.acc t ht (read.bind fun x=>Bp read t ht n (l++[x])) (.pure l)
noncomputable def items {α:Type} (read:PM α) (t:Str) (ht:t≠[]):PM (List α):=read.bind fun x=>Bp read t ht Af [x]
noncomputable def listed {α:Type} (read:PM α):PM (List α):=(items read [44] (by decide)).bind fun l=>(PM.exp [41] (by decide)).bind fun _=>.pure l
noncomputable def closed {α:Type} (read:PM α):PM (List α):= .acc [41] (by decide) (.pure []) (listed read)
noncomputable def If {α:Type} (read:PM α):PM (List α):= .acc [40] (by decide) (listed read) (.pure [])
def E3:PM Str:= .take 1 (by decide)
def Dx:PM Str:= .take 2 (by decide)
def FJ:PM Str:= .acc [95] (by decide) (.pure []) E3
def Rt (s:Str):Int:=(IW s 0).getD 0
def JH:PM Int:=(PM.take 3 (by decide)).map Rt
@[reducible] def C1 (t:Str) (ht:t≠[]:=by decide):PM Unit:= .exp t ht
@[reducible] def Bf {α:Type} (t:Str) (y n:PM α) (ht:t≠[]:=by decide):PM α:= .acc t ht y n
def OQ (k:Int) (T:PM TE):PM TE:=(C1 [40]).bind fun _=>T.bind fun t=>(C1 [41]).bind fun _=>.pure (.mk k [] [t])
noncomputable def GK:Nat→PM TE
 |0=>.fail (.mk 0 [] [])
 |n+1=>
  .kind 1 (E3.bind fun x=>.pure (.mk 4 x [])) <|
  .kind 2 (Dx.bind fun x=>(If (GK n)).bind fun l=>.pure (.mk 5 x l)) <|
  Bf [105,110,116] (.pure (.mk 1 [] [])) <|
  Bf [98,111,111,108] (.pure (.mk 2 [] [])) <|
  Bf [117,110,105,116] (.pure (.mk 3 [] [])) <|
  Bf [97,114,114,97,121] (OQ 7 (GK n)) <|
  Bf [114,101,102] (OQ 8 (GK n)) <|
  Bf [40] ((GK n).bind fun a=>(C1 [44]).bind fun _=>(listed (GK n)).bind fun l=>.pure (.mk 6 [] (a::l))) <|
  Bf [102,110] ((C1 [40]).bind fun _=>(closed (GK n)).bind fun l=>(C1 [45,62]).bind fun _=>(GK n).bind fun t=>.pure (.mk 9 [] (l++[t]))) <|
  .fail (.mk 0 [] [])
def exN (o u:Int) (ks:List Ex):Ex:= .mk o [] u [] ks []
noncomputable def jJ (E:PM Ex):PM Ex:=
 Bf [40] (FJ.bind fun a=>(C1 [44]).bind fun _=>(listed FJ).bind fun l=>(C1 [61]).bind fun _=>E.bind fun x=>(C1 [105,110]).bind fun _=>E.bind fun y=>.pure (.mk 8 [] 0 (a::l) [x,y] []))
  (FJ.bind fun a=>(C1 [61]).bind fun _=>E.bind fun x=>(C1 [105,110]).bind fun _=>E.bind fun y=>.pure (.mk 7 a 0 [] [x,y] []))
noncomputable def jH (E:PM Ex):PM Al:=Dx.bind fun c=>(If FJ).bind fun l=>(C1 [45,62]).bind fun _=>E.bind fun x=>.pure (.mk c l x)
def sE:Nat→Str
 |1=>[43]|2=>[45]|3=>[42]|4=>[47]|5=>[37]|6=>[60]|7=>[60,61]|_=>[61,61]
def Jf (E:PM Ex):PM (List Ex):=(C1 [40]).bind fun _=>E.bind fun x=>(C1 [41]).bind fun _=>.pure [x]
def N2 (E:PM Ex):PM (List Ex):=(C1 [40]).bind fun _=>E.bind fun x=>(C1 [44]).bind fun _=>E.bind fun y=>(C1 [41]).bind fun _=>.pure [x,y]
def Zx (E:PM Ex):PM (List Ex):=(C1 [40]).bind fun _=>E.bind fun x=>(C1 [44]).bind fun _=>E.bind fun y=>(C1 [44]).bind fun _=>E.bind fun z=>(C1 [41]).bind fun _=>.pure [x,y,z]
noncomputable def jK (E:PM Ex):PM Ex:=
 Bf [41] (.pure (exN 1 0 [])) (E.bind fun x=>Bf [41] (.pure x) ((C1 [44]).bind fun _=>(listed E).bind fun l=>.pure (exN 5 0 (x::l))))
def WD:PM Ex:=(C1 [40]).bind fun _=>(Bf [45] (JH.map fun n=>-n) JH).bind fun n=>(C1 [41]).bind fun _=>.pure (exN 15 n [])
noncomputable def Xv (E:PM Ex):PM Ex:=
 .kind 3 (JH.bind fun n=>.pure (exN 3 n [])) <|
 .kind 1 (E3.bind fun x=>.pure (.mk 4 x 0 [] [] [])) <|
 .kind 2 (Dx.bind fun x=>(If E).bind fun l=>.pure (.mk 6 x 0 [] l [])) <|
 Bf [45] (JH.bind fun n=>.pure (exN 3 (-n) [])) <|
 Bf [116,114,117,101] (.pure (exN 2 1 [])) <|
 Bf [102,97,108,115,101] (.pure (exN 2 0 [])) <|
 Bf [40] (jK E) <|
 Bf [116,105,99,107] WD <|
 Bf [114,97,105,115,101] ((Jf E).bind fun l=>.pure (exN 16 0 l)) <|
 Bf [110,101,119] ((N2 E).bind fun l=>.pure (exN 14 1 l)) <|
 Bf [103,101,116] ((N2 E).bind fun l=>.pure (exN 14 2 l)) <|
 Bf [115,101,116] ((Zx E).bind fun l=>.pure (exN 14 3 l)) <|
 Bf [108,101,110] ((Jf E).bind fun l=>.pure (exN 14 4 l)) <|
 Bf [114,101,102] ((Jf E).bind fun l=>.pure (exN 14 5 l)) <|
 Bf [114,101,97,100] ((Jf E).bind fun l=>.pure (exN 14 6 l)) <|
 Bf [119,114,105,116,101] ((N2 E).bind fun l=>.pure (exN 14 7 l)) <|
 .fail (exN 0 0 [])
noncomputable def ZR (E:PM Ex):Nat→Ex→PM Ex
 |0,a=>.pure a
 |n+1,a=>Bf [40] ((closed E).bind fun l=>ZR E n (exN 12 0 (a::l))) (.pure a)
noncomputable def VE (E:PM Ex):PM Ex:=(Xv E).bind fun a=>ZR E Af a
def E1 (op:Int) (a b:Ex):Ex:=exN 13 op [a,b]
noncomputable def P1 (E:PM Ex):Nat→Ex→PM Ex
 |0,a=>.pure a
 |n+1,a=>
  Bf [42] ((VE E).bind fun b=>P1 E n (E1 3 a b)) <|
  Bf [47] ((VE E).bind fun b=>P1 E n (E1 4 a b)) <|
  Bf [37] ((VE E).bind fun b=>P1 E n (E1 5 a b)) <|
  .pure a
noncomputable def OR (E:PM Ex):PM Ex:=(VE E).bind fun a=>P1 E Af a
noncomputable def Yh (E:PM Ex):Nat→Ex→PM Ex
 |0,a=>.pure a
 |n+1,a=>
  Bf [43] ((OR E).bind fun b=>Yh E n (E1 1 a b)) <|
  Bf [45] ((OR E).bind fun b=>Yh E n (E1 2 a b)) <|
  .pure a
noncomputable def Nu (E:PM Ex):PM Ex:=(OR E).bind fun a=>Yh E Af a
noncomputable def WB (E:PM Ex):PM Ex:=(Nu E).bind fun a=>
 Bf [60] ((Nu E).bind fun b=>.pure (E1 6 a b)) <|
 Bf [60,61] ((Nu E).bind fun b=>.pure (E1 7 a b)) <|
 Bf [61,61] ((Nu E).bind fun b=>.pure (E1 8 a b)) <|
 .pure a
noncomputable def C0:Nat→PM Ex
 |0=>.fail (exN 0 0 [])
 |n+1=>
  Bf [108,101,116] (jJ (C0 n)) <|
  Bf [105,102] ((C0 n).bind fun a=>(C1 [116,104,101,110]).bind fun _=>(C0 n).bind fun b=>(C1 [101,108,115,101]).bind fun _=>(C0 n).bind fun c=>.pure (exN 9 0 [a,b,c])) <|
  Bf [109,97,116,99,104] ((C0 n).bind fun a=>(C1 [119,105,116,104]).bind fun _=>(items (jH (C0 n)) [124] (by decide)).bind fun l=>(C1 [101,110,100]).bind fun _=>.pure (.mk 10 [] 0 [] [a] l)) <|
  Bf [102,110] ((C1 [40]).bind fun _=>(closed E3).bind fun l=>(C1 [45,62]).bind fun _=>(C0 n).bind fun a=>.pure (.mk 11 [] 0 l [a] [])) <|
  Bf [116,114,121] ((C0 n).bind fun a=>(C1 [99,97,116,99,104]).bind fun _=>FJ.bind fun x=>(C1 [45,62]).bind fun _=>(C0 n).bind fun b=>(C1 [101,110,100]).bind fun _=>.pure (.mk 17 x 0 [] [a,b] [])) <|
  WB (C0 n)
noncomputable def tyR:PM TE:=GK Af
noncomputable def exR:PM Ex:=C0 Af
noncomputable def jI:PM CE:=Dx.bind fun c=>(If tyR).bind fun l=>.pure ⟨c,l⟩
noncomputable def Uf:PM DE:=Dx.bind fun d=>(If E3).bind fun vs=>(C1 [61]).bind fun _=>(items jI [124] (by decide)).bind fun cs=>(C1 [59]).bind fun _=>.pure ⟨d,vs,cs⟩
noncomputable def YZ:PM FE:=E3.bind fun f=>(C1 [40]).bind fun _=>(closed E3).bind fun ps=>(C1 [61]).bind fun _=>exR.bind fun b=>(C1 [59]).bind fun _=>.pure ⟨f,ps,b⟩
noncomputable def M6:Nat→List DE→List FE→PM Pg
 |0,ds,fs=>.pure ⟨ds,fs⟩
 |n+1,ds,fs=>
  .kind 6 (.pure ⟨ds,fs⟩) <|
  Bf [100,97,116,97] (Uf.bind fun d=>M6 n (ds++[d]) fs) <|
  Bf [102,117,110] (YZ.bind fun f=>M6 n ds (fs++[f])) <|
  (PM.fail ()).bind fun _=>M6 n ds fs
noncomputable def Lf:PM Pg:=M6 Af [] []
end Go.Ab
