/- Prefixes and tokens. One token. Texts split into tokens. The parser in plain data: its steps. Conditions: none. -/
import Derived.Test.YtifplkldbbcldaaGreatDoorXLfP
set_option linter.unusedSimpArgs false
set_option linter.unusedVariables false
set_option maxRecDepth 4000
set_option maxHeartbeats 8000000
open List renaming takeWhile_cons→Ev,take_succ_cons→Rk,getElem?_drop→D2,drop_drop→Cb,length_append→AA,length_cons→AD,map_cons→AE,length→Ps,nil_append→A6
open Nat renaming lt_or_ge→Dz,le_refl→A7
open Bool renaming or_true→NH,or_false→Lb,and_true→B5,true_and→Ch,false_eq_true→AY
open Prod.mk renaming injEq→BW
namespace Go.Ab
open Go.Proofs
def Ej (c:Int→Bool) (b:UInt8):Bool:=c b.toNat
theorem If {c:UInt8→Bool} {s:Str} {i:Nat} (h:∀j b,j < i→s[j]?=some b→c b=true) (hi:i≤s.length) (he:∀b,s[i]?=some b→c b=false):s.takeWhile c=s.take i:=by
 induction i generalizing s with
 |zero=>
  cases s with
  |nil=>rfl
  |cons b r=>simp [he b rfl]
 |succ i ih=>
  cases s with
  |nil=>simp at hi
  |cons b r=>
   have hb:c b=true:=h 0 b (by omega) rfl
   rw [Ev,hb,if_pos rfl,Rk,ih (fun j b hj hb=>h (j+1) b (by omega) hb) (by simpa using hi) (fun b hb=>he b hb)]
theorem PI {fid:FuncId} (hb:Am Tryz.prog fid=true) (c:Int→Bool) (hc:∀n σ,AT Tryz.prog fid [.d (.int .u8 n)] σ (fun v σ'=>v= .d (.bool (c n))∧σ'=σ)) (s:Str) (σ:AN) (hl:s.length≤1000000000):
 AT Tryz.prog 114 [.d (.str s),.fn fid [] []] σ (fun v σ'=>v= .d (.str (s.takeWhile (Ej c)))∧σ'=σ):=by
 refine Vs (by simp) ?_
 rw [BH]
 (repeat (first
   |refine Run.seq ?_
   |refine Run.skip ?_
   |refine Run.block ?_
   |refine Run.blk ?_
   |refine Run.scope ?_
   |refine Run.scp ?_
   |(refine Run.exit rfl ?_)
   |(refine Run.reg mixed ?_;simp -implicitDefEqProofs only [go_sem])
   |(refine Run.AM ?_;simp -implicitDefEqProofs only [go_sem])))
 refine Run.Cm ?_
 refine Run.Cn ((fun (a0:AV) (a1:AV)=>fun (i:Nat)=>put 0 a0 (put 1 a1 (put 5 (.d (.int .i64 i)) U))) _ _) (fun _=>E) (fun _=>σ) (fun i=>i≤s.length∧∀j b,j < i→s[j]?=some b→Ej c b=true) (fun i=>s.length - i) ?_ 0 ⟨by simp,by simp⟩
 rintro i ⟨hi,hs⟩ ih
 by_cases hlt:i < s.length
 · obtain ⟨x,hx⟩:=D1 hlt
   (repeat' (first|refine Run.ct rfl ?_|((first|refine Run.reg mixed ?_|refine Run.AM ?_|(refine ⟨fid,[],[],rfl,hb,AG.det (hc _ _) ?_⟩)|refine Run.Af Lu (AN.le_refl _) ?_)<;>try simp -implicitDefEqProofs only [Ca hlt,L7 hx,Yq hi,FL (show i+1≤9000000000000000000 by omega),go_sem])|(refine ⟨fun h=>?_,fun h=>?_⟩<;>first|(cases h;done)|try simp only [h])|fail))
   · refine ih (i+1) ⟨hlt,fun j b hj hb=>?_⟩ (by omega)
     rcases Dz j i with h2|h2
     · exact hs j b h2 hb
     · have:j=i:=by omega
       subst this
       rw [hx] at hb;cases hb;exact h
   · rw [If hs hi (fun b hb=>by rw [hx] at hb;cases hb;exact h)]
 · have hge:i=s.length:=by omega
   (repeat' (first|refine Run.ct rfl ?_|((first|refine Run.reg mixed ?_|refine Run.AM ?_|refine Run.Af Lu (AN.le_refl _) ?_)<;>try simp -implicitDefEqProofs only [JZ hlt,Yq hi,go_sem])|fail))
   rw [If hs hi (fun b hb=>by rw [hge] at hb;simp at hb)]
end Go.Ab
namespace Go.Ab
open Go.Proofs
def Ee:Str→Except Int (Int×Str)
 |[]=>.error 2
 |b::r=>
  if P1 b.toNat||OB b.toNat then
   if decide (((b::r).takeWhile (Ej M6)).length>24) then .error 9
                                  else if OB b.toNat then .ok (2,(b::r).takeWhile (Ej M6))
                                  else if TR ((b::r).takeWhile (Ej M6)) then .ok (4,(b::r).takeWhile (Ej M6))
                                  else .ok (1,(b::r).takeWhile (Ej M6))
                                  else if Hv b.toNat then
   if b==48&&decide (((b::r).takeWhile (Ej Hv)).length>1) then .error 2
                                         else if (G7 ((b::r).takeWhile (Ej Hv)) 0).isSome then .ok (3,(b::r).takeWhile (Ej Hv))
                                         else .error 9
                                         else if (b::r).take (Qn (b::r))==[] then .error 2
                                         else .ok (5,(b::r).take (Qn (b::r)))
def jE (k:Int) (t:Str) (p:Int):AV:= .agg [.d (.int .i64 k),.d (.str t),.d (.int .i64 p)]
def Zt (p:Int):Except Int (Int×Str)→AV
 | .error e=>.tup [jE 0 [] 0,.d (.int .i64 e)]
 | .ok (k,t)=>.tup [jE k t p,.d (.int .i64 0)]
theorem HQ {α:Type} (p:α→Bool) (l:List α):(l.takeWhile p).length≤l.length:=(List.takeWhile_prefix p).length_le
theorem vU (b:UInt8):((b.toNat:Int)==48)=(b==48):=tU b 48
theorem wL (n:Nat):decide ((24:Int) < (n:Int))=decide (n>24):=decide_eq_decide.2 (by omega)
theorem gt1 (n:Nat):decide ((1:Int) < (n:Int))=decide (n>1):=decide_eq_decide.2 (by omega)
theorem gO:Am Tryz.prog 115=true:=by kernel_rfl
theorem kS:Am Tryz.prog 117=true:=by kernel_rfl
theorem SL (src:Str) (i:Nat) (σ:AN) (hl:src.length≤1000000000) (hi:i < src.length):
 AT Tryz.prog 59 [.d (.str src),.d (.int .i64 i)] σ (fun v σ'=>v=Zt i (Ee (src.drop i))∧σ'=σ):=by
 obtain ⟨b,hb⟩:=D1 hi
 have hd:=IU hb
 rw [hd]
 have hld:(src.drop i).length≤1000000000:=by simp;omega
 rw [hd] at hld
 have hw1:=HQ (Ej M6) (b::src.drop (i+1))
 have hw2:=HQ (Ej Hv) (b::src.drop (i+1))
 have hs1:VG (.d (.str src)) (some (.d (.int .i64 (i:Int)))) none=some (.d (.str (b::src.drop (i+1)))):=by rw [tM (by omega),hd]
 refine YW (by simp) ?_
 rw [BH]
 generalize src.drop (i+1)=r at *
 (repeat' (first|refine Run.ct rfl ?_|((first|refine Run.reg mixed ?_|refine Run.AM ?_|refine Run.Af TL (AN.le_refl _) ?_|refine AG.det (Qs _ _) ?_|refine AG.det (Qt _ _) ?_|refine AG.det (MQ _ _) ?_|refine AG.det (UZ _ _) ?_|refine AG.det (Wn _ _ (by omega)) ?_|refine AG.det (XZ _ _ (by simp)) ?_|refine AG.det (PI (c:=M6) gO VI _ _ hld) ?_|refine AG.det (PI (c:=Hv) kS MQ _ _ hld) ?_|(refine AQ rfl (fun h=>?_) (fun h=>?_)<;>try (cases h;done)))<;>try simp -implicitDefEqProofs only [L7 hb,hs1,vU,wL,gt1,go_sem])|(refine ⟨fun h=>?_,fun h=>?_⟩<;>first|(cases h;done)|try simp only [h])|fail))
 all_goals (clear hw1 hw2 hs1 hd hld;first|(simp only [Ee,Zt,jE, *,NH,Bool.true_or,Lb,Bool.false_or,B5,Ch,Bool.and_false,Bool.false_and,AY,reduceIte];done)|simp_all [Ee,Zt,jE])
end Go.Ab
namespace Go.Ab
open Go.Proofs
structure Tok where
 kind:Int
 text:Str
 pos:Nat
def Tok.enc (t:Tok):List DV:=[.int .i64 t.kind,.str t.text,.int .i64 t.pos]
def cmt (s:Str):Nat:=(s.takeWhile (fun c=>!(c==10))).length
def EB:Nat→Str→Nat→List Tok→List Tok×Nat×Int
 |0,_,_,_=>([],0,0)
 |n+1,rest,i,acc=>match rest with
  |[]=>(acc++[⟨6,[],i⟩],0,0)
  |b::r=>
   if Un b.toNat then EB n r (i+1) acc
                               else if b==35 then EB n ((b::r).drop (cmt (b::r))) (i+cmt (b::r)) acc
                               else match Ee (b::r) with
    | .error e=>([],i,e)
    | .ok (k,t)=>EB n ((b::r).drop t.length) (i+t.length) (acc++[⟨k,t,i⟩])
def BF (s:Str):List Tok×Nat×Int:=if s.length>16384 then ([],0,9) else EB (s.length+1) s 0 []
def Sh (r:List Tok×Nat×Int):AV:= .tup [.d (.sl (r.1.map Tok.enc)),.d (.int .i64 r.2.1),.d (.int .i64 r.2.2)]
theorem dC (b:UInt8):((b.toNat:Int)==35)=(b==35):=tU b 35
theorem nH (b:UInt8):((b.toNat:Int)==10)=(b==10):=tU b 10
theorem vI (n:Nat):decide ((16384:Int) < (n:Int))=decide (n>16384):=decide_eq_decide.2 (by omega)
theorem Qj {s:Str} {k:Int} {t:Str} (h:Ee s= .ok (k,t)):1≤t.length∧t.length≤s.length:=by
 match s with
 |[]=>simp [Ee] at h
 |b::r=>
  have h1:=HQ (Ej M6) (b::r)
  have h2:=HQ (Ej Hv) (b::r)
  simp only [Ee] at h
  split at h
  · rename_i hlu
    have hw:Ej M6 b=true:=by
     simp only [Ej,M6];rw [hlu];rfl
    have h3:1≤((b::r).takeWhile (Ej M6)).length:=by simp [hw]
    split at h
    · cases h
    · split at h
      · cases h;exact ⟨h3,h1⟩
      · split at h<;>(cases h;exact ⟨h3,h1⟩)
  · split at h
    · rename_i hdg
      have h3:1≤((b::r).takeWhile (Ej Hv)).length:=by simp [Ej,hdg]
      split at h
      · cases h
      · split at h<;>cases h
        exact ⟨h3,h2⟩
    · split at h
      · cases h
      · rename_i hne
        cases h
        refine ⟨?_,List.length_take_le' _ _⟩
        cases he:(b::r).take (Qn (b::r)) with
        |nil=>rw [he] at hne;simp at hne
        |cons=>simp
theorem Nt {s:Str} {e:Int} (h:Ee s= .error e):e=2∨e=9:=by
 match s with
 |[]=>simp only [Ee,Except.error.injEq] at h;omega
 |b::r=>
  simp only [Ee] at h
  repeat' split at h
  all_goals first|(cases h;simp;done)|cases h
theorem Qr (s:Str) (σ:AN):AT Tryz.prog 21 [.d (.str s)] σ (fun v σ'=>v=Sh (BF s)∧σ'=σ):=by
 refine XL (by simp) ?_
 rw [BM]
 (repeat' (first|refine Run.ct rfl ?_|((first|refine Run.reg mixed ?_|refine Run.AM ?_|refine Run.Af Bo (AN.le_refl _) ?_)<;>try simp -implicitDefEqProofs only [vI,go_sem])|(refine ⟨fun h=>?_,fun h=>?_⟩<;>first|(cases h;done)|try simp only [h])|fail))
 · have:s.length>16384:=by simpa using h
   simp [Sh,BF,this]
 · have hl:¬s.length>16384:=by simpa using h
   refine Run.Cm ?_
   refine Run.Cn ((fun (a0:AV)=>fun (y:Nat×AV×AN)=>put 0 a0 (put 5 (y.2.1) (put 6 (.d (.int .i64 y.1)) U))) _) (fun _=>E) (fun y=>y.2.2) (fun y=>y.1≤s.length∧∃acc n,E2 σ 38 3 (acc.map Tok.enc) y.2.1 y.2.2∧acc.length≤y.1∧s.length - y.1 < n∧BF s=EB n (s.drop y.1) y.1 acc) (fun y=>s.length - y.1) ?_ (0,.AU,σ) ⟨by simp,[],s.length+1,E2.nil _ _ _,by simp,by simp,by simp [BF,hl]⟩
   rintro ⟨i,v,σ1⟩ ⟨hi,acc,n,ho,hac,hn,hs⟩ ih
   simp only at hi ho hac hn hs
   obtain ⟨n,rfl⟩:∃m,n=m+1:=⟨n - 1,by omega⟩
   by_cases hlt:i < s.length
   · obtain ⟨x,hx⟩:=D1 hlt
     rw [IU hx,EB] at hs
     have hw1:=FL (show i+1≤9000000000000000000 by omega)
     have hsl:(x::s.drop (i+1)).length=s.length - i:=by simp;omega
     cases hb:Un x.toNat with
     |true=>
      rw [hb] at hs
      (repeat' (first|refine Run.ct rfl ?_|((first|refine Run.reg mixed ?_|refine Run.AM ?_|refine Run.Af Bo (AN.le_refl _) ?_|refine AG.det (Ig _ _) ?_)<;>try simp -implicitDefEqProofs only [Ca hlt,L7 hx,hb,hw1,go_sem])|fail))
      exact ih (i+1,v,σ1) ⟨hlt,acc,n,ho,by simp only;omega,by simp only;omega,hs⟩ (by simp only;omega)
     |false=>
      rw [hb,if_neg (by simp)] at hs
      cases hc:(x==35) with
      |true=>
       rw [hc,if_pos rfl] at hs
       (repeat' (first|refine Run.ct rfl ?_|((first|refine Run.reg mixed ?_|refine Run.AM ?_|refine Run.Af Bo (AN.le_refl _) ?_|refine AG.det (Ig _ _) ?_)<;>try simp -implicitDefEqProofs only [Ca hlt,L7 hx,dC,hb,hc,go_sem])|fail))
       refine Run.rJ [0,5,6] ?_;simp -implicitDefEqProofs only [go_sem]
       refine Run.Cm ?_
       refine Run.Cn ((fun (a0:AV) (a5:AV)=>fun (j:Nat)=>put 0 a0 (put 5 a5 (put 6 (.d (.int .i64 j)) U))) _ _) (fun _=>E) (fun _=>σ1) (fun j=>i≤j∧j≤s.length∧∀q b,q < j - i→(s.drop i)[q]?=some b→(!(b==10))=true) (fun j=>s.length - j) ?_ i ⟨A7 i,hi,by intro q b hq;omega⟩
       rintro j ⟨hij,hj,hall⟩ ih2
       have hw2:=FL (show j+1≤9000000000000000000 by omega)
       by_cases hjl:j < s.length
       · obtain ⟨z,hz⟩:=D1 hjl
         have hz2:(s.drop i)[j - i]?=some z:=by rw [D2,show i+(j - i)=j by omega];exact hz
         cases h10:(z==10) with
         |true=>
          (repeat' (first|refine Run.ct rfl ?_|((first|refine Run.reg mixed ?_|refine Run.AM ?_|refine Run.Af Bo (AN.le_refl _) ?_)<;>try simp -implicitDefEqProofs only [Ca hjl,L7 hz,nH,h10,go_sem])|fail))
          have hk:cmt (x::s.drop (i+1))=j - i:=by
           rw [← IU hx,cmt,If hall (by simp;omega) (fun b hb=>by rw [hz2] at hb;cases hb;simp [h10])]
           simp;omega
          have hji:j≠i:=fun e=>by
           subst e
           rw [hx] at hz;cases hz
           simp only [beq_iff_eq] at hc h10
           rw [hc] at h10;exact absurd h10 (by decide)
          rw [hk,← IU hx,Cb,show i+(j - i)=j by omega] at hs
          refine Run.rJ [0,5,6] ?_;simp -implicitDefEqProofs only [go_sem]
          exact ih (j,v,σ1) ⟨hj,acc,n,ho,by simp only;omega,by simp only;omega,hs⟩ (by simp only;omega)
         |false=>
          (repeat' (first|refine Run.ct rfl ?_|((first|refine Run.reg mixed ?_|refine Run.AM ?_|refine Run.Af Bo (AN.le_refl _) ?_)<;>try simp -implicitDefEqProofs only [Ca hjl,L7 hz,nH,h10,hw2,go_sem])|fail))
          refine ih2 (j+1) ⟨by omega,hjl,fun q b hq hb=>?_⟩ (by omega)
          rcases Dz q (j - i) with h2|h2
          · exact hall q b h2 hb
          · have:q=j - i:=by omega
            subst this
            rw [hz2] at hb;cases hb;simp [h10]
       · have hje:j=s.length:=by omega
         have hk:cmt (x::s.drop (i+1))=j - i:=by
          rw [← IU hx,cmt,If hall (by simp;omega) (fun b hb=>by rw [D2,show i+(j - i)=j by omega,hje] at hb;simp at hb)]
          simp;omega
         rw [hk,← IU hx,Cb,show i+(j - i)=j by omega,hje,List.drop_length] at hs
         obtain ⟨n,rfl⟩:∃m,n=m+1:=⟨n - 1,by omega⟩
         rw [EB] at hs
         (repeat' (first|refine Run.ct rfl ?_|((first|refine Run.reg mixed ?_|refine Run.AM ?_|(refine NN.own ho rfl (by simp) (by simp;omega) (by decide) (fun v2 σ2 ho2 hbk=>?_))|(refine Run.Af Bo ho2.le ?_)|refine Run.Af Bo (AN.le_refl _) ?_)<;>try simp -implicitDefEqProofs only [JZ hjl,go_sem])|fail))
         simp -implicitDefEqProofs only [ho2.As,ho2.plain,go_sem]
         rw [hs];simp [Sh,Tok.enc]
      |false=>
       rw [hc,if_neg (by simp)] at hs
       rcases hsc:Ee (x::s.drop (i+1)) with e|⟨k,t⟩
       · rw [hsc] at hs
         have he:=Nt hsc
         have hne:(e != 0)=true:=by simp;omega
         (repeat' (first|refine Run.ct rfl ?_|((first|refine Run.reg mixed ?_|refine Run.AM ?_|(refine Run.Af Bo ho.le ?_)|refine Run.Af Bo (AN.le_refl _) ?_|refine AG.det (Ig _ _) ?_|refine AG.det (SL _ _ _ (by omega) hlt) ?_)<;>try simp -implicitDefEqProofs only [Ca hlt,L7 hx,dC,hb,hc,IU hx,hsc,Zt,jE,hne,ho.BO,AY,go_sem])|fail))
         rw [hs];rfl
       · rw [hsc] at hs
         have hsn:=Qj hsc
         rw [hsl] at hsn
         (repeat' (first|refine Run.ct rfl ?_|((first|refine Run.reg mixed ?_|refine Run.AM ?_|(refine NN.own ho rfl (by simp) (by simp;omega) (by decide) (fun v2 σ2 ho2 hbk=>?_))|refine Run.Af Bo (AN.le_refl _) ?_|refine AG.det (Ig _ _) ?_|refine AG.det (SL _ _ _ (by omega) hlt) ?_)<;>try simp -implicitDefEqProofs only [Ca hlt,L7 hx,dC,hb,hc,IU hx,hsc,Zt,jE,ho.BO,AY,wrap_add (show i+t.length≤9000000000000000000 by omega),go_sem])|(refine ⟨fun h=>?_,fun h=>?_⟩<;>first|(cases h;done)|try simp only [h])|fail))
         refine ih (i+t.length,v2,σ2) ⟨?_,acc++[⟨k,t,i⟩],n,?_,?_,?_,?_⟩ ?_
         · simp only;omega
         · simpa [Tok.enc] using ho2
         · simp only [AA,List.length_singleton];omega
         · simp only;omega
         · rw [hs];simp only;rw [← IU hx,Cb]
         · simp only;omega
   · have hge:i=s.length:=by omega
     rw [hge,List.drop_length,EB] at hs
     (repeat' (first|refine Run.ct rfl ?_|((first|refine Run.reg mixed ?_|refine Run.AM ?_|(refine NN.own ho rfl (by simp) (by simp;omega) (by decide) (fun v2 σ2 ho2 hbk=>?_))|(refine Run.Af Bo ho2.le ?_)|refine Run.Af Bo (AN.le_refl _) ?_)<;>try simp -implicitDefEqProofs only [JZ hlt,go_sem])|fail))
     simp -implicitDefEqProofs only [ho2.As,ho2.plain,go_sem]
     rw [hs];simp [Sh,Tok.enc]
end Go.Ab
namespace Go.Ab
structure PSt where
 r:List Tok
 f:Bool
 p:Nat
def Sk:Tok:=⟨6,[],0⟩
def PSt.hd (s:PSt):Tok:=s.r.headD Sk
def PSt.adv (s:PSt):PSt:=⟨s.r.tail,s.f,s.p⟩
def TT (r:List Tok):List Tok:=r.drop (r.length - 1)
def PSt.fail (s:PSt):PSt:=⟨TT s.r,true,if s.f then s.p else s.hd.pos⟩
def WF:List Tok→Prop
 |[]=>False
 |[t]=>t.kind=6∧t.text=[]
 |t::l=>(t.kind≠6∧t.text≠[])∧WF l
theorem WF.ne {r:List Tok} (h:WF r):r≠[]:=by rintro rfl;exact h
theorem WF.tail {t:Tok} {l:List Tok} (h:WF (t::l)) (hk:t.kind≠6∨t.text≠[]):WF l:=by
 cases l with
 |nil=>simp only [WF] at h;rcases hk with hk|hk<;>simp_all
 |cons u l=>exact h.2
theorem WF.last:∀ {r:List Tok},WF r→WF (TT r)
 |[],h=>h.elim
 |[t],h=>h
 |t::u::l,h=>by
  have:=WF.last (r:=u::l) h.2
  unfold TT at this ⊢
  simp only [AD,Nat.add_sub_cancel] at this ⊢
  rw [List.drop_succ_cons]
  exact this
theorem k8 (r:List Tok):TT r <:+r:=List.drop_suffix _ _
theorem Qw {s:PSt} (h:WF s.r) (hk:s.hd.kind≠6∨s.hd.text≠[]):WF s.adv.r∧s.adv.r <:+s.r:=by
 obtain ⟨r,f,p⟩:=s
 cases r with
 |nil=>exact h.elim
 |cons t l=>exact ⟨h.tail hk,List.suffix_cons t l⟩
theorem Tb {s:PSt} (h:WF s.r):WF s.fail.r∧s.fail.r <:+s.r:=⟨h.last,k8 _⟩
def strip (r:List Tok):List (Int×Str):=r.map fun t=>(t.kind,t.text)
theorem T8:∀ {r r':List Tok},strip r=strip r'→(r.headD Sk).kind=(r'.headD Sk).kind∧(r.headD Sk).text=(r'.headD Sk).text
 |[],[],_=>⟨rfl,rfl⟩
 |[],_::_,h=>by simp [strip] at h
 |_::_,[],h=>by simp [strip] at h
 |t::l,u::m,h=>by
  simp only [strip,AE,List.cons.injEq,BW] at h
  exact ⟨h.1.1,h.1.2⟩
theorem Wh {r r':List Tok} (h:strip r=strip r'):strip r.tail=strip r'.tail:=by
 have:=congrArg List.tail h
 simpa only [strip,List.map_tail] using this
theorem Wg {r r':List Tok} (h:strip r=strip r'):strip (TT r)=strip (TT r'):=by
 have hl:r.length=r'.length:=by simpa [strip] using congrArg Ps h
 have:=congrArg (List.drop (r.length - 1)) h
 simpa only [strip,TT,List.map_drop,hl] using this
theorem jB {a l t:List Tok} (h:a <:+l++t) (hl:t.length≤a.length):∃m,a=m++t∧m <:+l:=by
 obtain ⟨pre,h⟩:=h
 have h1:pre.length≤l.length:=by
  have:=congrArg Ps h
  simp only [AA] at this;omega
 refine ⟨l.drop pre.length,?_,List.drop_suffix _ _⟩
 have:=congrArg (List.drop pre.length) h
 rw [List.drop_left,List.drop_append_of_le_length h1] at this
 exact this
structure PM (α:Type) where
 run:PSt→α×PSt
 st:∀s,s.f=true→(run s).2.f=true∧(run s).2.p=s.p
 sf:∀s,WF s.r→WF (run s).2.r∧(run s).2.r <:+s.r
 pm:∀s s',strip s.r=strip s'.r→s.f=s'.f→(run s).1=(run s').1∧strip (run s).2.r=strip (run s').2.r∧(run s).2.f=(run s').2.f
 fr:∀(l t1 t2:List Tok) (f:Bool) (p:Nat) (l':List Tok),l'≠[]→WF (l++t1)→(run ⟨l++t1,f,p⟩).2.f=false→(run ⟨l++t1,f,p⟩).2.r=l'++t1→(run ⟨l++t2,f,p⟩)=((run ⟨l++t1,f,p⟩).1,⟨l'++t2,false,(run ⟨l++t1,f,p⟩).2.p⟩)
theorem aL {l l' t:List Tok} {a:List Tok} (h:a <:+l++t) (e:a=l'++t) (hn:l'≠[]):l≠[]:=by
 rintro rfl
 have:=h.length_le
 rw [e,AA,A6] at this
 cases l' with
 |nil=>exact hn rfl
 |cons x l'=>simp at this;omega
namespace PM
variable {α β:Type}
def pure (a:α):PM α:=⟨fun s=>(a,s),fun _ h=>⟨h,rfl⟩,fun _ h=>⟨h,List.suffix_refl _⟩,fun _ _ h k=>⟨rfl,h,k⟩,fun l t1 t2 f p l' _ _ hf hr=>by
 simp only at hf hr ⊢
 rw [List.append_cancel_right hr,hf]⟩
def bind (m:PM α) (k:α→PM β):PM β:=
 ⟨fun s=>(k (m.run s).1).run (m.run s).2,fun s h=>by
   obtain ⟨h1,h2⟩:=m.st s h
   obtain ⟨h3,h4⟩:=(k (m.run s).1).st _ h1
   exact ⟨h3,h4.trans h2⟩,fun s h=>by
   obtain ⟨h1,h2⟩:=m.sf s h
   obtain ⟨h3,h4⟩:=(k (m.run s).1).sf _ h1
   exact ⟨h3,h4.trans h2⟩,fun s s' h hf=>by
   obtain ⟨h1,h2,h3⟩:=m.pm s s' h hf
   have:=(k (m.run s).1).pm _ _ h2 h3
   rw [h1] at this ⊢
   exact this,fun l t1 t2 f p l' hn hw hf hr=>by
   have s1f:(m.run ⟨l++t1,f,p⟩).2.f=false:=by
    cases hc:(m.run ⟨l++t1,f,p⟩).2.f with
    |false=>rfl
    |true=>have:=((k (m.run ⟨l++t1,f,p⟩).1).st _ hc).1;rw [hf] at this;cases this
   obtain ⟨w1,u1⟩:=m.sf ⟨l++t1,f,p⟩ hw
   obtain ⟨w2,u2⟩:=(k (m.run ⟨l++t1,f,p⟩).1).sf _ w1
   have hl:=u2.length_le
   rw [hr,AA] at hl
   obtain ⟨l1,e1,_⟩:=jB u1 (by omega)
   have hn1:l1≠[]:=by
    rintro rfl
    rw [e1] at hl
    cases l' with
    |nil=>exact hn rfl
    |cons x l'=>simp at hl;omega
   have em:=m.fr l t1 t2 f p l1 hn1 hw s1f e1
   rw [em]
   simp only
   generalize m.run ⟨l++t1,f,p⟩=x at *
   obtain ⟨a,r,g,q⟩:=x
   simp only at *
   subst e1 s1f
   exact (k a).fr l1 t1 t2 false q l' hn w1 hf hr⟩
def acc (t:Str) (ht:t≠[]) (y n:PM α):PM α:=
 ⟨fun s=>if s.hd.text==t then y.run s.adv else n.run s,fun s h=>by
   split
   · exact y.st s.adv h
   · exact n.st s h,fun s h=>by
   split
   · rename_i e
     rw [beq_iff_eq] at e
     obtain ⟨h1,h2⟩:=Qw h (.inr (by rw [e];exact ht))
     obtain ⟨h3,h4⟩:=y.sf s.adv h1
     exact ⟨h3,h4.trans h2⟩
   · exact n.sf s h,fun s s' h hf=>by
   have e:s.hd.text=s'.hd.text:=(T8 h).2
   rw [e]
   split
   · exact y.pm s.adv s'.adv (Wh h) hf
   · exact n.pm s s' h hf,fun l t1 t2 f p l' hn hw hf hr=>by
   cases l with
   |nil=>
    exfalso
    have hs:(if (PSt.mk ([]++t1) f p).hd.text==t then y.run (PSt.mk ([]++t1) f p).adv else n.run ⟨[]++t1,f,p⟩).2.r <:+[]++t1:=by
     split
     · rename_i e
       rw [beq_iff_eq] at e
       obtain ⟨h1,h2⟩:=Qw (s:=⟨[]++t1,f,p⟩) hw (.inr (by rw [e];exact ht))
       exact (y.sf _ h1).2.trans h2
     · exact (n.sf ⟨[]++t1,f,p⟩ hw).2
    exact aL hs hr hn rfl
   |cons x l0=>
    have h1:∀t,(PSt.mk (x::l0++t) f p).hd=x:=fun _=>rfl
    have h2:∀t,(PSt.mk (x::l0++t) f p).adv=⟨l0++t,f,p⟩:=fun _=>rfl
    simp only [h1,h2] at hf hr ⊢
    split
    · rename_i e
      rw [if_pos e] at hf hr
      rw [beq_iff_eq] at e
      exact y.fr l0 t1 t2 f p l' hn (hw.tail (.inr (by rw [e];exact ht))) hf hr
    · rename_i e
      rw [if_neg e] at hf hr
      exact n.fr (x::l0) t1 t2 f p l' hn hw hf hr⟩
def kind (k:Int) (y n:PM α):PM α:=
 ⟨fun s=>if s.hd.kind==k then y.run s else n.run s,fun s h=>by
   split
   · exact y.st s h
   · exact n.st s h,fun s h=>by
   split
   · exact y.sf s h
   · exact n.sf s h,fun s s' h hf=>by
   have e:s.hd.kind=s'.hd.kind:=(T8 h).1
   rw [e]
   split
   · exact y.pm s s' h hf
   · exact n.pm s s' h hf,fun l t1 t2 f p l' hn hw hf hr=>by
   cases l with
   |nil=>
    exfalso
    have hs:(if (PSt.mk ([]++t1) f p).hd.kind==k then y.run ⟨[]++t1,f,p⟩ else n.run ⟨[]++t1,f,p⟩).2.r <:+[]++t1:=by
     split
     · exact (y.sf ⟨[]++t1,f,p⟩ hw).2
     · exact (n.sf ⟨[]++t1,f,p⟩ hw).2
    exact aL hs hr hn rfl
   |cons x l0=>
    have h1:∀t,(PSt.mk (x::l0++t) f p).hd=x:=fun _=>rfl
    simp only [h1] at hf hr ⊢
    split
    · rename_i e
      rw [if_pos e] at hf hr
      exact y.fr (x::l0) t1 t2 f p l' hn hw hf hr
    · rename_i e
      rw [if_neg e] at hf hr
      exact n.fr (x::l0) t1 t2 f p l' hn hw hf hr⟩
def fail (a:α):PM α:=⟨fun s=>(a,s.fail),fun s h=>⟨rfl,by simp [PSt.fail,h]⟩,fun s h=>Tb h,fun s s' h hf=>⟨rfl,Wg h,rfl⟩,fun l t1 t2 f p l' hn hw hf hr=>by cases hf⟩
def tok (c:Int→Str→Bool) (hc:∀k t,c k t=true→k≠6∨t≠[]) (g:Str→α) (b:α):PM α:=
 ⟨fun s=>if c s.hd.kind s.hd.text then (g s.hd.text,s.adv) else (b,s.fail),fun s hf=>by
   split
   · exact ⟨hf,rfl⟩
   · exact ⟨rfl,by simp [PSt.fail,hf]⟩,fun s hw=>by
   split
   · rename_i e;exact Qw hw (hc _ _ e)
   · exact Tb hw,fun s s' h hf=>by
   have e1:s.hd.kind=s'.hd.kind:=(T8 h).1
   have e2:s.hd.text=s'.hd.text:=(T8 h).2
   rw [e1,e2]
   split
   · exact ⟨rfl,Wh h,hf⟩
   · exact ⟨rfl,Wg h,rfl⟩,fun l t1 t2 f p l' hn hw hf hr=>by
   cases l with
   |nil=>
    exfalso
    have hs:(if c (PSt.mk ([]++t1) f p).hd.kind (PSt.mk ([]++t1) f p).hd.text then (g (PSt.mk ([]++t1) f p).hd.text,(PSt.mk ([]++t1) f p).adv) else (b,PSt.fail ⟨[]++t1,f,p⟩)).2.r <:+[]++t1:=by
     split
     · rename_i e;exact (Qw (s:=⟨[]++t1,f,p⟩) hw (hc _ _ e)).2
     · exact (Tb (s:=⟨[]++t1,f,p⟩) hw).2
    exact aL hs hr hn rfl
   |cons x l0=>
    have h1:∀t,(PSt.mk (x::l0++t) f p).hd=x:=fun _=>rfl
    have h2:∀t,(PSt.mk (x::l0++t) f p).adv=⟨l0++t,f,p⟩:=fun _=>rfl
    simp only [h1,h2] at hf hr ⊢
    split
    · rename_i e
      rw [if_pos e] at hf hr
      simp only at hf hr ⊢
      rw [List.append_cancel_right hr,hf]
    · rename_i e
      rw [if_neg e] at hf
      cases hf⟩
def exp (t:Str) (ht:t≠[]):PM Unit:=tok (fun _ u=>u==t) (fun _ u h=>.inr (by rw [beq_iff_eq] at h;rw [h];exact ht)) (fun _=>()) ()
def take (k:Int) (hk:k≠6):PM Str:=tok (fun q _=>q==k) (fun q _ h=>.inl (by rw [beq_iff_eq] at h;rw [h];exact hk)) id []
def map (g:α→β) (m:PM α):PM β:=m.bind fun a=>pure (g a)
end PM
theorem eA:∃n:Nat,20000≤n:=⟨20000,A7 _⟩
noncomputable def BB:Nat:=Classical.choose eA
theorem FC:20000≤BB:=Classical.choose_spec eA
def Dw {α:Type} (read:PM α) (t:Str) (ht:t≠[]):Nat→List α→PM (List α)
 |0,l=>.pure l
 |n+1,l=>.acc t ht (read.bind fun x=>Dw read t ht n (l++[x])) (.pure l)
noncomputable def items {α:Type} (read:PM α) (t:Str) (ht:t≠[]):PM (List α):=read.bind fun x=>Dw read t ht BB [x]
noncomputable def listed {α:Type} (read:PM α):PM (List α):=(items read [44] (by decide)).bind fun l=>(PM.exp [41] (by decide)).bind fun _=>.pure l
noncomputable def closed {α:Type} (read:PM α):PM (List α):= .acc [41] (by decide) (.pure []) (listed read)
noncomputable def H9 {α:Type} (read:PM α):PM (List α):= .acc [40] (by decide) (listed read) (.pure [])
def FK:PM Str:= .take 1 (by decide)
def Eo:PM Str:= .take 2 (by decide)
def Fj:PM Str:= .acc [95] (by decide) (.pure []) FK
def P2 (s:Str):Int:=(G7 s 0).getD 0
def Il:PM Int:=(PM.take 3 (by decide)).map P2
@[reducible] def FR (t:Str) (ht:t≠[]:=by decide):PM Unit:= .exp t ht
@[reducible] def Dq {α:Type} (t:Str) (y n:PM α) (ht:t≠[]:=by decide):PM α:= .acc t ht y n
def Q5 (k:Int) (T:PM TE):PM TE:=(FR [40]).bind fun _=>T.bind fun t=>(FR [41]).bind fun _=>.pure (.mk k [] [t])
noncomputable def FT:Nat→PM TE
 |0=>.fail (.mk 0 [] [])
 |n+1=>
  .kind 1 (FK.bind fun x=>.pure (.mk 4 x [])) <|
  .kind 2 (Eo.bind fun x=>(H9 (FT n)).bind fun l=>.pure (.mk 5 x l)) <|
  Dq [105,110,116] (.pure (.mk 1 [] [])) <|
  Dq [98,111,111,108] (.pure (.mk 2 [] [])) <|
  Dq [117,110,105,116] (.pure (.mk 3 [] [])) <|
  Dq [97,114,114,97,121] (Q5 7 (FT n)) <|
  Dq [114,101,102] (Q5 8 (FT n)) <|
  Dq [40] ((FT n).bind fun a=>(FR [44]).bind fun _=>(listed (FT n)).bind fun l=>.pure (.mk 6 [] (a::l))) <|
  Dq [102,110] ((FR [40]).bind fun _=>(closed (FT n)).bind fun l=>(FR [45,62]).bind fun _=>(FT n).bind fun t=>.pure (.mk 9 [] (l++[t]))) <|
  .fail (.mk 0 [] [])
def exN (o u:Int) (ks:List Ex):Ex:= .mk o [] u [] ks []
noncomputable def Zh (E:PM Ex):PM Ex:=
 Dq [40] (Fj.bind fun a=>(FR [44]).bind fun _=>(listed Fj).bind fun l=>(FR [61]).bind fun _=>E.bind fun x=>(FR [105,110]).bind fun _=>E.bind fun y=>.pure (.mk 8 [] 0 (a::l) [x,y] []))
  (Fj.bind fun a=>(FR [61]).bind fun _=>E.bind fun x=>(FR [105,110]).bind fun _=>E.bind fun y=>.pure (.mk 7 a 0 [] [x,y] []))
noncomputable def cC (E:PM Ex):PM Al:=Eo.bind fun c=>(H9 Fj).bind fun l=>(FR [45,62]).bind fun _=>E.bind fun x=>.pure (.mk c l x)
def TZ:Nat→Str
 |1=>[43]|2=>[45]|3=>[42]|4=>[47]|5=>[37]|6=>[60]|7=>[60,61]|_=>[61,61]
def Mx (E:PM Ex):PM (List Ex):=(FR [40]).bind fun _=>E.bind fun x=>(FR [41]).bind fun _=>.pure [x]
def Q4 (E:PM Ex):PM (List Ex):=(FR [40]).bind fun _=>E.bind fun x=>(FR [44]).bind fun _=>E.bind fun y=>(FR [41]).bind fun _=>.pure [x,y]
def Yd (E:PM Ex):PM (List Ex):=(FR [40]).bind fun _=>E.bind fun x=>(FR [44]).bind fun _=>E.bind fun y=>(FR [44]).bind fun _=>E.bind fun z=>(FR [41]).bind fun _=>.pure [x,y,z]
noncomputable def Ye (E:PM Ex):PM Ex:=
 Dq [41] (.pure (exN 1 0 [])) (E.bind fun x=>Dq [41] (.pure x) ((FR [44]).bind fun _=>(listed E).bind fun l=>.pure (exN 5 0 (x::l))))
def Xq:PM Ex:=(FR [40]).bind fun _=>(Dq [45] (Il.map fun n=>-n) Il).bind fun n=>(FR [41]).bind fun _=>.pure (exN 15 n [])
noncomputable def Hp (E:PM Ex):PM Ex:=
 .kind 3 (Il.bind fun n=>.pure (exN 3 n [])) <|
 .kind 1 (FK.bind fun x=>.pure (.mk 4 x 0 [] [] [])) <|
 .kind 2 (Eo.bind fun x=>(H9 E).bind fun l=>.pure (.mk 6 x 0 [] l [])) <|
 Dq [45] (Il.bind fun n=>.pure (exN 3 (-n) [])) <|
 Dq [116,114,117,101] (.pure (exN 2 1 [])) <|
 Dq [102,97,108,115,101] (.pure (exN 2 0 [])) <|
 Dq [40] (Ye E) <|
 Dq [116,105,99,107] Xq <|
 Dq [114,97,105,115,101] ((Mx E).bind fun l=>.pure (exN 16 0 l)) <|
 Dq [110,101,119] ((Q4 E).bind fun l=>.pure (exN 14 1 l)) <|
 Dq [103,101,116] ((Q4 E).bind fun l=>.pure (exN 14 2 l)) <|
 Dq [115,101,116] ((Yd E).bind fun l=>.pure (exN 14 3 l)) <|
 Dq [108,101,110] ((Mx E).bind fun l=>.pure (exN 14 4 l)) <|
 Dq [114,101,102] ((Mx E).bind fun l=>.pure (exN 14 5 l)) <|
 Dq [114,101,97,100] ((Mx E).bind fun l=>.pure (exN 14 6 l)) <|
 Dq [119,114,105,116,101] ((Q4 E).bind fun l=>.pure (exN 14 7 l)) <|
 .fail (exN 0 0 [])
noncomputable def SQ (E:PM Ex):Nat→Ex→PM Ex
 |0,a=>.pure a
 |n+1,a=>Dq [40] ((closed E).bind fun l=>SQ E n (exN 12 0 (a::l))) (.pure a)
noncomputable def P3 (E:PM Ex):PM Ex:=(Hp E).bind fun a=>SQ E BB a
def Gu (op:Int) (a b:Ex):Ex:=exN 13 op [a,b]
noncomputable def JO (E:PM Ex):Nat→Ex→PM Ex
 |0,a=>.pure a
 |n+1,a=>
  Dq [42] ((P3 E).bind fun b=>JO E n (Gu 3 a b)) <|
  Dq [47] ((P3 E).bind fun b=>JO E n (Gu 4 a b)) <|
  Dq [37] ((P3 E).bind fun b=>JO E n (Gu 5 a b)) <|
  .pure a
noncomputable def LF (E:PM Ex):PM Ex:=(P3 E).bind fun a=>JO E BB a
noncomputable def Rf (E:PM Ex):Nat→Ex→PM Ex
 |0,a=>.pure a
 |n+1,a=>
  Dq [43] ((LF E).bind fun b=>Rf E n (Gu 1 a b)) <|
  Dq [45] ((LF E).bind fun b=>Rf E n (Gu 2 a b)) <|
  .pure a
noncomputable def KM (E:PM Ex):PM Ex:=(LF E).bind fun a=>Rf E BB a
noncomputable def Ud (E:PM Ex):PM Ex:=(KM E).bind fun a=>
 Dq [60] ((KM E).bind fun b=>.pure (Gu 6 a b)) <|
 Dq [60,61] ((KM E).bind fun b=>.pure (Gu 7 a b)) <|
 Dq [61,61] ((KM E).bind fun b=>.pure (Gu 8 a b)) <|
 .pure a
noncomputable def Bq:Nat→PM Ex
 |0=>.fail (exN 0 0 [])
 |n+1=>
  Dq [108,101,116] (Zh (Bq n)) <|
  Dq [105,102] ((Bq n).bind fun a=>(FR [116,104,101,110]).bind fun _=>(Bq n).bind fun b=>(FR [101,108,115,101]).bind fun _=>(Bq n).bind fun c=>.pure (exN 9 0 [a,b,c])) <|
  Dq [109,97,116,99,104] ((Bq n).bind fun a=>(FR [119,105,116,104]).bind fun _=>(items (cC (Bq n)) [124] (by decide)).bind fun l=>(FR [101,110,100]).bind fun _=>.pure (.mk 10 [] 0 [] [a] l)) <|
  Dq [102,110] ((FR [40]).bind fun _=>(closed FK).bind fun l=>(FR [45,62]).bind fun _=>(Bq n).bind fun a=>.pure (.mk 11 [] 0 l [a] [])) <|
  Dq [116,114,121] ((Bq n).bind fun a=>(FR [99,97,116,99,104]).bind fun _=>Fj.bind fun x=>(FR [45,62]).bind fun _=>(Bq n).bind fun b=>(FR [101,110,100]).bind fun _=>.pure (.mk 17 x 0 [] [a,b] [])) <|
  Ud (Bq n)
noncomputable def tyR:PM TE:=FT BB
noncomputable def exR:PM Ex:=Bq BB
noncomputable def Zg:PM CE:=Eo.bind fun c=>(H9 tyR).bind fun l=>.pure ⟨c,l⟩
noncomputable def SG:PM DE:=Eo.bind fun d=>(H9 FK).bind fun vs=>(FR [61]).bind fun _=>(items Zg [124] (by decide)).bind fun cs=>(FR [59]).bind fun _=>.pure ⟨d,vs,cs⟩
noncomputable def XV:PM FE:=FK.bind fun f=>(FR [40]).bind fun _=>(closed FK).bind fun ps=>(FR [61]).bind fun _=>exR.bind fun b=>(FR [59]).bind fun _=>.pure ⟨f,ps,b⟩
noncomputable def LG:Nat→List DE→List FE→PM Pg
 |0,ds,fs=>.pure ⟨ds,fs⟩
 |n+1,ds,fs=>
  .kind 6 (.pure ⟨ds,fs⟩) <|
  Dq [100,97,116,97] (SG.bind fun d=>LG n (ds++[d]) fs) <|
  Dq [102,117,110] (XV.bind fun f=>LG n ds (fs++[f])) <|
  (PM.fail ()).bind fun _=>LG n ds fs
noncomputable def KO:PM Pg:=LG BB [] []
end Go.Ab
