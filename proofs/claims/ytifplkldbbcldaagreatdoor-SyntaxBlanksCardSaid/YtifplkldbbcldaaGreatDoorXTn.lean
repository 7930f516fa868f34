/- Prefixes and tokens. One token. Texts split into tokens. The parser in plain data: its steps. Conditions: none. -/
import Derived.Test.YtifplkldbbcldaaGreatDoorXLfP
set_option linter.unusedSimpArgs false
set_option linter.unusedVariables false
set_option maxRecDepth 4000
set_option maxHeartbeats 8000000
open List renaming takeWhile_cons→B8,take_succ_cons→Rr,getElem?_drop→D9,drop_drop→Ce,length_append→AA,length_cons→AD,map_cons→AE,length→Mf,nil_append→A6
open Nat renaming lt_or_ge→EN,le_refl→A7
open Bool renaming or_true→NO,or_false→Lf,and_true→B7,true_and→Cl,false_eq_true→AY
open Prod.mk renaming injEq→BH
namespace Go.Ab
open Go.Proofs
def Db (c:Int→Bool) (b:UInt8):Bool:=c b.toNat
theorem Il {c:UInt8→Bool} {s:Str} {i:Nat} (h:∀j b,j < i→s[j]?=some b→c b=true) (hi:i≤s.length) (he:∀b,s[i]?=some b→c b=false):s.takeWhile c=s.take i:=by
 induction i generalizing s with
 |zero=>
  cases s with
  |nil=>rfl
  |cons b r=>simp [he b rfl]
 |succ i ih=>
  cases s with
  |nil=>simp at hi
  |cons b r=>
   have hb:c b=true:=h 0 b (by omega) rfl
   rw [B8,hb,if_pos rfl,Rr,ih (fun j b hj hb=>h (j+1) b (by omega) hb) (by simpa using hi) (fun b hb=>he b hb)]
theorem PU {fid:FuncId} (hb:Am Tryz.prog fid=true) (c:Int→Bool) (hc:∀n σ,AT Tryz.prog fid [.d (.int .u8 n)] σ (fun v σ'=>v= .d (.bool (c n))∧σ'=σ)) (s:Str) (σ:AN) (hl:s.length≤1000000000):
 AT Tryz.prog 114 [.d (.str s),.fn fid [] []] σ (fun v σ'=>v= .d (.str (s.takeWhile (Db c)))∧σ'=σ):=by
 refine WG (by simp) ?_
 rw [BL]
 (repeat (first
   |refine Run.seq ?_
   |refine Run.skip ?_
   |refine Run.block ?_
   |refine Run.blk ?_
   |refine Run.scope ?_
   |refine Run.scp ?_
   |(refine Run.exit rfl ?_)
   |(refine Run.reg mixed ?_;simp -implicitDefEqProofs only [go_sem])
   |(refine Run.AM ?_;simp -implicitDefEqProofs only [go_sem])))
 refine Run.Co ?_
 refine Run.Cp ((fun (a0:AV) (a1:AV)=>fun (i:Nat)=>put 0 a0 (put 1 a1 (put 5 (.d (.int .i64 i)) U))) _ _) (fun _=>E) (fun _=>σ) (fun i=>i≤s.length∧∀j b,j < i→s[j]?=some b→Db c b=true) (fun i=>s.length - i) ?_ 0 ⟨by simp,by simp⟩
 rintro i ⟨hi,hs⟩ ih
 by_cases hlt:i < s.length
 · obtain ⟨x,hx⟩:=DN hlt
   (repeat' (first|refine Run.ct rfl ?_|((first|refine Run.reg mixed ?_|refine Run.AM ?_|(refine ⟨fid,[],[],rfl,hb,AG.det (hc _ _) ?_⟩)|refine Run.Ag Ly (AN.le_refl _) ?_)<;>try simp -implicitDefEqProofs only [C9 hlt,Lc hx,ZD hi,FR (show i+1≤9000000000000000000 by omega),go_sem])|(refine ⟨fun h=>?_,fun h=>?_⟩<;>first|(cases h;done)|try simp only [h])|fail))
   · refine ih (i+1) ⟨hlt,fun j b hj hb=>?_⟩ (by omega)
     rcases EN j i with h2|h2
     · exact hs j b h2 hb
     · have:j=i:=by omega
       subst this
       rw [hx] at hb;cases hb;exact h
   · rw [Il hs hi (fun b hb=>by rw [hx] at hb;cases hb;exact h)]
 · have hge:i=s.length:=by omega
   (repeat' (first|refine Run.ct rfl ?_|((first|refine Run.reg mixed ?_|refine Run.AM ?_|refine Run.Ag Ly (AN.le_refl _) ?_)<;>try simp -implicitDefEqProofs only [Ib hlt,ZD hi,go_sem])|fail))
   rw [Il hs hi (fun b hb=>by rw [hge] at hb;simp at hb)]
end Go.Ab
namespace Go.Ab
open Go.Proofs
def Cc:Str→Except Int (Int×Str)
 |[]=>.error 2
 |b::r=>
  if Ni b.toNat||Mc b.toNat then
   if decide (((b::r).takeWhile (Db Iy)).length>24) then .error 9
                                  else if Mc b.toNat then .ok (2,(b::r).takeWhile (Db Iy))
                                  else if TX ((b::r).takeWhile (Db Iy)) then .ok (4,(b::r).takeWhile (Db Iy))
                                  else .ok (1,(b::r).takeWhile (Db Iy))
                                  else if GM b.toNat then
   if b==48&&decide (((b::r).takeWhile (Db GM)).length>1) then .error 2
                                         else if (Gd ((b::r).takeWhile (Db GM)) 0).isSome then .ok (3,(b::r).takeWhile (Db GM))
                                         else .error 9
                                         else if (b::r).take (Ik (b::r))==[] then .error 2
                                         else .ok (5,(b::r).take (Ik (b::r)))
def jZ (k:Int) (t:Str) (p:Int):AV:= .agg [.d (.int .i64 k),.d (.str t),.d (.int .i64 p)]
def aG (p:Int):Except Int (Int×Str)→AV
 | .error e=>.tup [jZ 0 [] 0,.d (.int .i64 e)]
 | .ok (k,t)=>.tup [jZ k t p,.d (.int .i64 0)]
theorem Fz {α:Type} (p:α→Bool) (l:List α):(l.takeWhile p).length≤l.length:=(List.takeWhile_prefix p).length_le
theorem wT (b:UInt8):((b.toNat:Int)==48)=(b==48):=uV b 48
theorem xF (n:Nat):decide ((24:Int) < (n:Int))=decide (n>24):=decide_eq_decide.2 (by omega)
theorem gt1 (n:Nat):decide ((1:Int) < (n:Int))=decide (n>1):=decide_eq_decide.2 (by omega)
theorem hU:Am Tryz.prog 115=true:=by kernel_rfl
theorem lG:Am Tryz.prog 117=true:=by kernel_rfl
theorem SR (src:Str) (i:Nat) (σ:AN) (hl:src.length≤1000000000) (hi:i < src.length):
 AT Tryz.prog 59 [.d (.str src),.d (.int .i64 i)] σ (fun v σ'=>v=aG i (Cc (src.drop i))∧σ'=σ):=by
 obtain ⟨b,hb⟩:=DN hi
 have hd:=IZ hb
 rw [hd]
 have hld:(src.drop i).length≤1000000000:=by simp;omega
 rw [hd] at hld
 have hw1:=Fz (Db Iy) (b::src.drop (i+1))
 have hw2:=Fz (Db GM) (b::src.drop (i+1))
 have hs1:VS (.d (.str src)) (some (.d (.int .i64 (i:Int)))) none=some (.d (.str (b::src.drop (i+1)))):=by rw [uN (by omega),hd]
 refine Ya (by simp) ?_
 rw [BL]
 generalize src.drop (i+1)=r at *
 (repeat' (first|refine Run.ct rfl ?_|((first|refine Run.reg mixed ?_|refine Run.AM ?_|refine Run.Ag TR (AN.le_refl _) ?_|refine AG.det (Qx _ _) ?_|refine AG.det (Qy _ _) ?_|refine AG.det (MW _ _) ?_|refine AG.det (Ub _ _) ?_|refine AG.det (Wy _ _ (by omega)) ?_|refine AG.det (Xc _ _ (by simp)) ?_|refine AG.det (PU (c:=Iy) hU VT _ _ hld) ?_|refine AG.det (PU (c:=GM) lG MW _ _ hld) ?_|(refine AQ rfl (fun h=>?_) (fun h=>?_)<;>try (cases h;done)))<;>try simp -implicitDefEqProofs only [Lc hb,hs1,wT,xF,gt1,go_sem])|(refine ⟨fun h=>?_,fun h=>?_⟩<;>first|(cases h;done)|try simp only [h])|fail))
 all_goals (clear hw1 hw2 hs1 hd hld;first|(simp only [Cc,aG,jZ, *,NO,Bool.true_or,Lf,Bool.false_or,B7,Cl,Bool.and_false,Bool.false_and,AY,reduceIte];done)|simp_all [Cc,aG,jZ])
end Go.Ab
namespace Go.Ab
open Go.Proofs
structure Tok where
 kind:Int
 text:Str
 pos:Nat
def Tok.enc (t:Tok):List DV:=[.int .i64 t.kind,.str t.text,.int .i64 t.pos]
def cmt (s:Str):Nat:=(s.takeWhile (fun c=>!(c==10))).length
def Cd:Nat→Str→Nat→List Tok→List Tok×Nat×Int
 |0,_,_,_=>([],0,0)
 |n+1,rest,i,acc=>match rest with
  |[]=>(acc++[⟨6,[],i⟩],0,0)
  |b::r=>
   if TA b.toNat then Cd n r (i+1) acc
                               else if b==35 then Cd n ((b::r).drop (cmt (b::r))) (i+cmt (b::r)) acc
                               else match Cc (b::r) with
    | .error e=>([],i,e)
    | .ok (k,t)=>Cd n ((b::r).drop t.length) (i+t.length) (acc++[⟨k,t,i⟩])
def Ao (s:Str):List Tok×Nat×Int:=if s.length>16384 then ([],0,9) else Cd (s.length+1) s 0 []
def Qv (r:List Tok×Nat×Int):AV:= .tup [.d (.sl (r.1.map Tok.enc)),.d (.int .i64 r.2.1),.d (.int .i64 r.2.2)]
theorem dV (b:UInt8):((b.toNat:Int)==35)=(b==35):=uV b 35
theorem oA (b:UInt8):((b.toNat:Int)==10)=(b==10):=uV b 10
theorem wH (n:Nat):decide ((16384:Int) < (n:Int))=decide (n>16384):=decide_eq_decide.2 (by omega)
theorem OB {s:Str} {k:Int} {t:Str} (h:Cc s= .ok (k,t)):1≤t.length∧t.length≤s.length:=by
 match s with
 |[]=>simp [Cc] at h
 |b::r=>
  have h1:=Fz (Db Iy) (b::r)
  have h2:=Fz (Db GM) (b::r)
  simp only [Cc] at h
  split at h
  · rename_i hlu
    have hw:Db Iy b=true:=by
     simp only [Db,Iy];rw [hlu];rfl
    have h3:1≤((b::r).takeWhile (Db Iy)).length:=by simp [hw]
    split at h
    · cases h
    · split at h
      · cases h;exact ⟨h3,h1⟩
      · split at h<;>(cases h;exact ⟨h3,h1⟩)
  · split at h
    · rename_i hdg
      have h3:1≤((b::r).takeWhile (Db GM)).length:=by simp [Db,hdg]
      split at h
      · cases h
      · split at h<;>cases h
        exact ⟨h3,h2⟩
    · split at h
      · cases h
      · rename_i hne
        cases h
        refine ⟨?_,List.length_take_le' _ _⟩
        cases he:(b::r).take (Ik (b::r)) with
        |nil=>rw [he] at hne;simp at hne
        |cons=>simp
theorem MQ {s:Str} {e:Int} (h:Cc s= .error e):e=2∨e=9:=by
 match s with
 |[]=>simp only [Cc,Except.error.injEq] at h;omega
 |b::r=>
  simp only [Cc] at h
  repeat' split at h
  all_goals first|(cases h;simp;done)|cases h
theorem MV (s:Str) (σ:AN):AT Tryz.prog 21 [.d (.str s)] σ (fun v σ'=>v=Qv (Ao s)∧σ'=σ):=by
 refine X1 (by simp) ?_
 rw [BO]
 (repeat' (first|refine Run.ct rfl ?_|((first|refine Run.reg mixed ?_|refine Run.AM ?_|refine Run.Ag Br (AN.le_refl _) ?_)<;>try simp -implicitDefEqProofs only [wH,go_sem])|(refine ⟨fun h=>?_,fun h=>?_⟩<;>first|(cases h;done)|try simp only [h])|fail))
 · have:s.length>16384:=by simpa using h
   simp [Qv,Ao,this]
 · have hl:¬s.length>16384:=by simpa using h
   refine Run.Co ?_
   refine Run.Cp ((fun (a0:AV)=>fun (y:Nat×AV×AN)=>put 0 a0 (put 5 (y.2.1) (put 6 (.d (.int .i64 y.1)) U))) _) (fun _=>E) (fun y=>y.2.2) (fun y=>y.1≤s.length∧∃acc n,Ec σ 38 3 (acc.map Tok.enc) y.2.1 y.2.2∧acc.length≤y.1∧s.length - y.1 < n∧Ao s=Cd n (s.drop y.1) y.1 acc) (fun y=>s.length - y.1) ?_ (0,.AW,σ) ⟨by simp,[],s.length+1,Ec.nil _ _ _,by simp,by simp,by simp [Ao,hl]⟩
   rintro ⟨i,v,σ1⟩ ⟨hi,acc,n,ho,hac,hn,hs⟩ ih
   simp only at hi ho hac hn hs
   obtain ⟨n,rfl⟩:∃m,n=m+1:=⟨n - 1,by omega⟩
   by_cases hlt:i < s.length
   · obtain ⟨x,hx⟩:=DN hlt
     rw [IZ hx,Cd] at hs
     have hw1:=FR (show i+1≤9000000000000000000 by omega)
     have hsl:(x::s.drop (i+1)).length=s.length - i:=by simp;omega
     cases hb:TA x.toNat with
     |true=>
      rw [hb] at hs
      (repeat' (first|refine Run.ct rfl ?_|((first|refine Run.reg mixed ?_|refine Run.AM ?_|refine Run.Ag Br (AN.le_refl _) ?_|refine AG.det (Im _ _) ?_)<;>try simp -implicitDefEqProofs only [C9 hlt,Lc hx,hb,hw1,go_sem])|fail))
      exact ih (i+1,v,σ1) ⟨hlt,acc,n,ho,by simp only;omega,by simp only;omega,hs⟩ (by simp only;omega)
     |false=>
      rw [hb,if_neg (by simp)] at hs
      cases hc:(x==35) with
      |true=>
       rw [hc,if_pos rfl] at hs
       (repeat' (first|refine Run.ct rfl ?_|((first|refine Run.reg mixed ?_|refine Run.AM ?_|refine Run.Ag Br (AN.le_refl _) ?_|refine AG.det (Im _ _) ?_)<;>try simp -implicitDefEqProofs only [C9 hlt,Lc hx,dV,hb,hc,go_sem])|fail))
       refine Run.sE [0,5,6] ?_;simp -implicitDefEqProofs only [go_sem]
       refine Run.Co ?_
       refine Run.Cp ((fun (a0:AV) (a5:AV)=>fun (j:Nat)=>put 0 a0 (put 5 a5 (put 6 (.d (.int .i64 j)) U))) _ _) (fun _=>E) (fun _=>σ1) (fun j=>i≤j∧j≤s.length∧∀q b,q < j - i→(s.drop i)[q]?=some b→(!(b==10))=true) (fun j=>s.length - j) ?_ i ⟨A7 i,hi,by intro q b hq;omega⟩
       rintro j ⟨hij,hj,hall⟩ ih2
       have hw2:=FR (show j+1≤9000000000000000000 by omega)
       by_cases hjl:j < s.length
       · obtain ⟨z,hz⟩:=DN hjl
         have hz2:(s.drop i)[j - i]?=some z:=by rw [D9,show i+(j - i)=j by omega];exact hz
         cases h10:(z==10) with
         |true=>
          (repeat' (first|refine Run.ct rfl ?_|((first|refine Run.reg mixed ?_|refine Run.AM ?_|refine Run.Ag Br (AN.le_refl _) ?_)<;>try simp -implicitDefEqProofs only [C9 hjl,Lc hz,oA,h10,go_sem])|fail))
          have hk:cmt (x::s.drop (i+1))=j - i:=by
           rw [← IZ hx,cmt,Il hall (by simp;omega) (fun b hb=>by rw [hz2] at hb;cases hb;simp [h10])]
           simp;omega
          have hji:j≠i:=fun e=>by
           subst e
           rw [hx] at hz;cases hz
           simp only [beq_iff_eq] at hc h10
           rw [hc] at h10;exact absurd h10 (by decide)
          rw [hk,← IZ hx,Ce,show i+(j - i)=j by omega] at hs
          refine Run.sE [0,5,6] ?_;simp -implicitDefEqProofs only [go_sem]
          exact ih (j,v,σ1) ⟨hj,acc,n,ho,by simp only;omega,by simp only;omega,hs⟩ (by simp only;omega)
         |false=>
          (repeat' (first|refine Run.ct rfl ?_|((first|refine Run.reg mixed ?_|refine Run.AM ?_|refine Run.Ag Br (AN.le_refl _) ?_)<;>try simp -implicitDefEqProofs only [C9 hjl,Lc hz,oA,h10,hw2,go_sem])|fail))
          refine ih2 (j+1) ⟨by omega,hjl,fun q b hq hb=>?_⟩ (by omega)
          rcases EN q (j - i) with h2|h2
          · exact hall q b h2 hb
          · have:q=j - i:=by omega
            subst this
            rw [hz2] at hb;cases hb;simp [h10]
       · have hje:j=s.length:=by omega
         have hk:cmt (x::s.drop (i+1))=j - i:=by
          rw [← IZ hx,cmt,Il hall (by simp;omega) (fun b hb=>by rw [D9,show i+(j - i)=j by omega,hje] at hb;simp at hb)]
          simp;omega
         rw [hk,← IZ hx,Ce,show i+(j - i)=j by omega,hje,List.drop_length] at hs
         obtain ⟨n,rfl⟩:∃m,n=m+1:=⟨n - 1,by omega⟩
         rw [Cd] at hs
         (repeat' (first|refine Run.ct rfl ?_|((first|refine Run.reg mixed ?_|refine Run.AM ?_|(refine NT.own ho rfl (by simp) (by simp;omega) (by decide) (fun v2 σ2 ho2 hbk=>?_))|(refine Run.Ag Br ho2.le ?_)|refine Run.Ag Br (AN.le_refl _) ?_)<;>try simp -implicitDefEqProofs only [Ib hjl,go_sem])|fail))
         simp -implicitDefEqProofs only [ho2.At,ho2.plain,go_sem]
         rw [hs];simp [Qv,Tok.enc]
      |false=>
       rw [hc,if_neg (by simp)] at hs
       rcases hsc:Cc (x::s.drop (i+1)) with e|⟨k,t⟩
       · rw [hsc] at hs
         have he:=MQ hsc
         have hne:(e != 0)=true:=by simp;omega
         (repeat' (first|refine Run.ct rfl ?_|((first|refine Run.reg mixed ?_|refine Run.AM ?_|(refine Run.Ag Br ho.le ?_)|refine Run.Ag Br (AN.le_refl _) ?_|refine AG.det (Im _ _) ?_|refine AG.det (SR _ _ _ (by omega) hlt) ?_)<;>try simp -implicitDefEqProofs only [C9 hlt,Lc hx,dV,hb,hc,IZ hx,hsc,aG,jZ,hne,ho.BQ,AY,go_sem])|fail))
         rw [hs];rfl
       · rw [hsc] at hs
         have hsn:=OB hsc
         rw [hsl] at hsn
         (repeat' (first|refine Run.ct rfl ?_|((first|refine Run.reg mixed ?_|refine Run.AM ?_|(refine NT.own ho rfl (by simp) (by simp;omega) (by decide) (fun v2 σ2 ho2 hbk=>?_))|refine Run.Ag Br (AN.le_refl _) ?_|refine AG.det (Im _ _) ?_|refine AG.det (SR _ _ _ (by omega) hlt) ?_)<;>try simp -implicitDefEqProofs only [C9 hlt,Lc hx,dV,hb,hc,IZ hx,hsc,aG,jZ,ho.BQ,AY,wrap_add (show i+t.length≤9000000000000000000 by omega),go_sem])|(refine ⟨fun h=>?_,fun h=>?_⟩<;>first|(cases h;done)|try simp only [h])|fail))
         refine ih (i+t.length,v2,σ2) ⟨?_,acc++[⟨k,t,i⟩],n,?_,?_,?_,?_⟩ ?_
         · simp only;omega
         · simpa [Tok.enc] using ho2
         · simp only [AA,List.length_singleton];omega
         · simp only;omega
         · rw [hs];simp only;rw [← IZ hx,Ce]
         · simp only;omega
   · have hge:i=s.length:=by omega
     rw [hge,List.drop_length,Cd] at hs
     (repeat' (first|refine Run.ct rfl ?_|((first|refine Run.reg mixed ?_|refine Run.AM ?_|(refine NT.own ho rfl (by simp) (by simp;omega) (by decide) (fun v2 σ2 ho2 hbk=>?_))|(refine Run.Ag Br ho2.le ?_)|refine Run.Ag Br (AN.le_refl _) ?_)<;>try simp -implicitDefEqProofs only [Ib hlt,go_sem])|fail))
     simp -implicitDefEqProofs only [ho2.At,ho2.plain,go_sem]
     rw [hs];simp [Qv,Tok.enc]
end Go.Ab
namespace Go.Ab
structure PSt where
 r:List Tok
 f:Bool
 p:Nat
def Sp:Tok:=⟨6,[],0⟩
def PSt.hd (s:PSt):Tok:=s.r.headD Sp
def PSt.adv (s:PSt):PSt:=⟨s.r.tail,s.f,s.p⟩
def TZ (r:List Tok):List Tok:=r.drop (r.length - 1)
def PSt.fail (s:PSt):PSt:=⟨TZ s.r,true,if s.f then s.p else s.hd.pos⟩
def WF:List Tok→Prop
 |[]=>False
 |[t]=>t.kind=6∧t.text=[]
 |t::l=>(t.kind≠6∧t.text≠[])∧WF l
theorem WF.ne {r:List Tok} (h:WF r):r≠[]:=by rintro rfl;exact h
theorem WF.tail {t:Tok} {l:List Tok} (h:WF (t::l)) (hk:t.kind≠6∨t.text≠[]):WF l:=by
 cases l with
 |nil=>simp only [WF] at h;rcases hk with hk|hk<;>simp_all
 |cons u l=>exact h.2
theorem WF.last:∀ {r:List Tok},WF r→WF (TZ r)
 |[],h=>h.elim
 |[t],h=>h
 |t::u::l,h=>by
  have:=WF.last (r:=u::l) h.2
  unfold TZ at this ⊢
  simp only [AD,Nat.add_sub_cancel] at this ⊢
  rw [List.drop_succ_cons]
  exact this
theorem lR (r:List Tok):TZ r <:+r:=List.drop_suffix _ _
theorem RB {s:PSt} (h:WF s.r) (hk:s.hd.kind≠6∨s.hd.text≠[]):WF s.adv.r∧s.adv.r <:+s.r:=by
 obtain ⟨r,f,p⟩:=s
 cases r with
 |nil=>exact h.elim
 |cons t l=>exact ⟨h.tail hk,List.suffix_cons t l⟩
theorem Tm {s:PSt} (h:WF s.r):WF s.fail.r∧s.fail.r <:+s.r:=⟨h.last,lR _⟩
def strip (r:List Tok):List (Int×Str):=r.map fun t=>(t.kind,t.text)
theorem Ti:∀ {r r':List Tok},strip r=strip r'→(r.headD Sp).kind=(r'.headD Sp).kind∧(r.headD Sp).text=(r'.headD Sp).text
 |[],[],_=>⟨rfl,rfl⟩
 |[],_::_,h=>by simp [strip] at h
 |_::_,[],h=>by simp [strip] at h
 |t::l,u::m,h=>by
  simp only [strip,AE,List.cons.injEq,BH] at h
  exact ⟨h.1.1,h.1.2⟩
theorem Ws {r r':List Tok} (h:strip r=strip r'):strip r.tail=strip r'.tail:=by
 have:=congrArg List.tail h
 simpa only [strip,List.map_tail] using this
theorem Wr {r r':List Tok} (h:strip r=strip r'):strip (TZ r)=strip (TZ r'):=by
 have hl:r.length=r'.length:=by simpa [strip] using congrArg Mf h
 have:=congrArg (List.drop (r.length - 1)) h
 simpa only [strip,TZ,List.map_drop,hl] using this
theorem jW {a l t:List Tok} (h:a <:+l++t) (hl:t.length≤a.length):∃m,a=m++t∧m <:+l:=by
 obtain ⟨pre,h⟩:=h
 have h1:pre.length≤l.length:=by
  have:=congrArg Mf h
  simp only [AA] at this;omega
 refine ⟨l.drop pre.length,?_,List.drop_suffix _ _⟩
 have:=congrArg (List.drop pre.length) h
 rw [List.drop_left,List.drop_append_of_le_length h1] at this
 exact this
structure PM (α:Type) where
 run:PSt→α×PSt
 st:∀s,s.f=true→(run s).2.f=true∧(run s).2.p=s.p
 sf:∀s,WF s.r→WF (run s).2.r∧(run s).2.r <:+s.r
 pm:∀s s',strip s.r=strip s'.r→s.f=s'.f→(run s).1=(run s').1∧strip (run s).2.r=strip (run s').2.r∧(run s).2.f=(run s').2.f
 fr:∀(l t1 t2:List Tok) (f:Bool) (p:Nat) (l':List Tok),l'≠[]→WF (l++t1)→(run ⟨l++t1,f,p⟩).2.f=false→(run ⟨l++t1,f,p⟩).2.r=l'++t1→(run ⟨l++t2,f,p⟩)=((run ⟨l++t1,f,p⟩).1,⟨l'++t2,false,(run ⟨l++t1,f,p⟩).2.p⟩)
theorem bB {l l' t:List Tok} {a:List Tok} (h:a <:+l++t) (e:a=l'++t) (hn:l'≠[]):l≠[]:=by
 rintro rfl
 have:=h.length_le
 rw [e,AA,A6] at this
 cases l' with
 |nil=>exact hn rfl
 |cons x l'=>simp at this;omega
namespace PM
variable {α β:Type}
def pure (a:α):PM α:=⟨fun s=>(a,s),fun _ h=>⟨h,rfl⟩,fun _ h=>⟨h,List.suffix_refl _⟩,fun _ _ h k=>⟨rfl,h,k⟩,fun l t1 t2 f p l' _ _ hf hr=>by
 simp only at hf hr ⊢
 rw [List.append_cancel_right hr,hf]⟩
def bind (m:PM α) (k:α→PM β):PM β:=
 ⟨fun s=>(k (m.run s).1).run (m.run s).2,fun s h=>by
   obtain ⟨h1,h2⟩:=m.st s h
   obtain ⟨h3,h4⟩:=(k (m.run s).1).st _ h1
   exact ⟨h3,h4.trans h2⟩,fun s h=>by
   obtain ⟨h1,h2⟩:=m.sf s h
   obtain ⟨h3,h4⟩:=(k (m.run s).1).sf _ h1
   exact ⟨h3,h4.trans h2⟩,fun s s' h hf=>by
   obtain ⟨h1,h2,h3⟩:=m.pm s s' h hf
   have:=(k (m.run s).1).pm _ _ h2 h3
   rw [h1] at this ⊢
   exact this,fun l t1 t2 f p l' hn hw hf hr=>by
   have s1f:(m.run ⟨l++t1,f,p⟩).2.f=false:=by
    cases hc:(m.run ⟨l++t1,f,p⟩).2.f with
    |false=>rfl
    |true=>have:=((k (m.run ⟨l++t1,f,p⟩).1).st _ hc).1;rw [hf] at this;cases this
   obtain ⟨w1,u1⟩:=m.sf ⟨l++t1,f,p⟩ hw
   obtain ⟨w2,u2⟩:=(k (m.run ⟨l++t1,f,p⟩).1).sf _ w1
   have hl:=u2.length_le
   rw [hr,AA] at hl
   obtain ⟨l1,e1,_⟩:=jW u1 (by omega)
   have hn1:l1≠[]:=by
    rintro rfl
    rw [e1] at hl
    cases l' with
    |nil=>exact hn rfl
    |cons x l'=>simp at hl;omega
   have em:=m.fr l t1 t2 f p l1 hn1 hw s1f e1
   rw [em]
   simp only
   generalize m.run ⟨l++t1,f,p⟩=x at *
   obtain ⟨a,r,g,q⟩:=x
   simp only at *
   subst e1 s1f
   exact (k a).fr l1 t1 t2 false q l' hn w1 hf hr⟩
def acc (t:Str) (ht:t≠[]) (y n:PM α):PM α:=
 ⟨fun s=>if s.hd.text==t then y.run s.adv else n.run s,fun s h=>by
   split
   · exact y.st s.adv h
   · exact n.st s h,fun s h=>by
   split
   · rename_i e
     rw [beq_iff_eq] at e
     obtain ⟨h1,h2⟩:=RB h (.inr (by rw [e];exact ht))
     obtain ⟨h3,h4⟩:=y.sf s.adv h1
     exact ⟨h3,h4.trans h2⟩
   · exact n.sf s h,fun s s' h hf=>by
   have e:s.hd.text=s'.hd.text:=(Ti h).2
   rw [e]
   split
   · exact y.pm s.adv s'.adv (Ws h) hf
   · exact n.pm s s' h hf,fun l t1 t2 f p l' hn hw hf hr=>by
   cases l with
   |nil=>
    exfalso
    have hs:(if (PSt.mk ([]++t1) f p).hd.text==t then y.run (PSt.mk ([]++t1) f p).adv else n.run ⟨[]++t1,f,p⟩).2.r <:+[]++t1:=by
     split
     · rename_i e
       rw [beq_iff_eq] at e
       obtain ⟨h1,h2⟩:=RB (s:=⟨[]++t1,f,p⟩) hw (.inr (by rw [e];exact ht))
       exact (y.sf _ h1).2.trans h2
     · exact (n.sf ⟨[]++t1,f,p⟩ hw).2
    exact bB hs hr hn rfl
   |cons x l0=>
    have h1:∀t,(PSt.mk (x::l0++t) f p).hd=x:=fun _=>rfl
    have h2:∀t,(PSt.mk (x::l0++t) f p).adv=⟨l0++t,f,p⟩:=fun _=>rfl
    simp only [h1,h2] at hf hr ⊢
    split
    · rename_i e
      rw [if_pos e] at hf hr
      rw [beq_iff_eq] at e
      exact y.fr l0 t1 t2 f p l' hn (hw.tail (.inr (by rw [e];exact ht))) hf hr
    · rename_i e
      rw [if_neg e] at hf hr
      exact n.fr (x::l0) t1 t2 f p l' hn hw hf hr⟩
def kind (k:Int) (y n:PM α):PM α:=
 ⟨fun s=>if s.hd.kind==k then y.run s else n.run s,fun s h=>by
   split
   · exact y.st s h
   · exact n.st s h,fun s h=>by
   split
   · exact y.sf s h
   · exact n.sf s h,fun s s' h hf=>by
   have e:s.hd.kind=s'.hd.kind:=(Ti h).1
   rw [e]
   split
   · exact y.pm s s' h hf
   · exact n.pm s s' h hf,fun l t1 t2 f p l' hn hw hf hr=>by
   cases l with
   |nil=>
    exfalso
    have hs:(if (PSt.mk ([]++t1) f p).hd.kind==k then y.run ⟨[]++t1,f,p⟩ else n.run ⟨[]++t1,f,p⟩).2.r <:+[]++t1:=by
     split
     · exact (y.sf ⟨[]++t1,f,p⟩ hw).2
     · exact (n.sf ⟨[]++t1,f,p⟩ hw).2
    exact bB hs hr hn rfl
   |cons x l0=>
    have h1:∀t,(PSt.mk (x::l0++t) f p).hd=x:=fun _=>rfl
    simp only [h1] at hf hr ⊢
    split
    · rename_i e
      rw [if_pos e] at hf hr
      exact y.fr (x::l0) t1 t2 f p l' hn hw hf hr
    · rename_i e
      rw [if_neg e] at hf hr
      exact n.fr (x::l0) t1 t2 f p l' hn hw hf hr⟩
def fail (a:α):PM α:=⟨fun s=>(a,s.fail),fun s h=>⟨rfl,by simp [PSt.fail,h]⟩,fun s h=>Tm h,fun s s' h hf=>⟨rfl,Wr h,rfl⟩,fun l t1 t2 f p l' hn hw hf hr=>by cases hf⟩
def tok (c:Int→Str→Bool) (hc:∀k t,c k t=true→k≠6∨t≠[]) (g:Str→α) (b:α):PM α:=
 ⟨fun s=>if c s.hd.kind s.hd.text then (g s.hd.text,s.adv) else (b,s.fail),fun s hf=>by
   split
   · exact ⟨hf,rfl⟩
   · exact ⟨rfl,by simp [PSt.fail,hf]⟩,fun s hw=>by
   split
   · rename_i e;exact RB hw (hc _ _ e)
   · exact Tm hw,fun s s' h hf=>by
   have e1:s.hd.kind=s'.hd.kind:=(Ti h).1
   have e2:s.hd.text=s'.hd.text:=(Ti h).2
   rw [e1,e2]
   split
   · exact ⟨rfl,Ws h,hf⟩
   · exact ⟨rfl,Wr h,rfl⟩,fun l t1 t2 f p l' hn hw hf hr=>by
   cases l with
   |nil=>
    exfalso
    have hs:(if c (PSt.mk ([]++t1) f p).hd.kind (PSt.mk ([]++t1) f p).hd.text then (g (PSt.mk ([]++t1) f p).hd.text,(PSt.mk ([]++t1) f p).adv) else (b,PSt.fail ⟨[]++t1,f,p⟩)).2.r <:+[]++t1:=by
     split
     · rename_i e;exact (RB (s:=⟨[]++t1,f,p⟩) hw (hc _ _ e)).2
     · exact (Tm (s:=⟨[]++t1,f,p⟩) hw).2
    exact bB hs hr hn rfl
   |cons x l0=>
    have h1:∀t,(PSt.mk (x::l0++t) f p).hd=x:=fun _=>rfl
    have h2:∀t,(PSt.mk (x::l0++t) f p).adv=⟨l0++t,f,p⟩:=fun _=>rfl
    simp only [h1,h2] at hf hr ⊢
    split
    · rename_i e
      rw [if_pos e] at hf hr
      simp only at hf hr ⊢
      rw [List.append_cancel_right hr,hf]
    · rename_i e
      rw [if_neg e] at hf
      cases hf⟩
def exp (t:Str) (ht:t≠[]):PM Unit:=tok (fun _ u=>u==t) (fun _ u h=>.inr (by rw [beq_iff_eq] at h;rw [h];exact ht)) (fun _=>()) ()
def take (k:Int) (hk:k≠6):PM Str:=tok (fun q _=>q==k) (fun q _ h=>.inl (by rw [beq_iff_eq] at h;rw [h];exact hk)) id []
def map (g:α→β) (m:PM α):PM β:=m.bind fun a=>pure (g a)
end PM
theorem eU:∃n:Nat,20000≤n:=⟨20000,A7 _⟩
noncomputable def BC:Nat:=Classical.choose eU
theorem FI:20000≤BC:=Classical.choose_spec eU
def EJ {α:Type} (read:PM α) (t:Str) (ht:t≠[]):Nat→List α→PM (List α)
 |0,l=>.pure l
 |n+1,l=>.acc t ht (read.bind fun x=>EJ read t ht n (l++[x])) (.pure l)
noncomputable def items {α:Type} (read:PM α) (t:Str) (ht:t≠[]):PM (List α):=read.bind fun x=>EJ read t ht BC [x]
noncomputable def listed {α:Type} (read:PM α):PM (List α):=(items read [44] (by decide)).bind fun l=>(PM.exp [41] (by decide)).bind fun _=>.pure l
noncomputable def closed {α:Type} (read:PM α):PM (List α):= .acc [41] (by decide) (.pure []) (listed read)
noncomputable def Hf {α:Type} (read:PM α):PM (List α):= .acc [40] (by decide) (listed read) (.pure [])
def FP:PM Str:= .take 1 (by decide)
def Ev:PM Str:= .take 2 (by decide)
def Fq:PM Str:= .acc [95] (by decide) (.pure []) FP
def Pb (s:Str):Int:=(Gd s 0).getD 0
def It:PM Int:=(PM.take 3 (by decide)).map Pb
@[reducible] def FY (t:Str) (ht:t≠[]:=by decide):PM Unit:= .exp t ht
@[reducible] def EB {α:Type} (t:Str) (y n:PM α) (ht:t≠[]:=by decide):PM α:= .acc t ht y n
def Qe (k:Int) (T:PM TE):PM TE:=(FY [40]).bind fun _=>T.bind fun t=>(FY [41]).bind fun _=>.pure (.mk k [] [t])
noncomputable def FZ:Nat→PM TE
 |0=>.fail (.mk 0 [] [])
 |n+1=>
  .kind 1 (FP.bind fun x=>.pure (.mk 4 x [])) <|
  .kind 2 (Ev.bind fun x=>(Hf (FZ n)).bind fun l=>.pure (.mk 5 x l)) <|
  EB [105,110,116] (.pure (.mk 1 [] [])) <|
  EB [98,111,111,108] (.pure (.mk 2 [] [])) <|
  EB [117,110,105,116] (.pure (.mk 3 [] [])) <|
  EB [97,114,114,97,121] (Qe 7 (FZ n)) <|
  EB [114,101,102] (Qe 8 (FZ n)) <|
  EB [40] ((FZ n).bind fun a=>(FY [44]).bind fun _=>(listed (FZ n)).bind fun l=>.pure (.mk 6 [] (a::l))) <|
  EB [102,110] ((FY [40]).bind fun _=>(closed (FZ n)).bind fun l=>(FY [45,62]).bind fun _=>(FZ n).bind fun t=>.pure (.mk 9 [] (l++[t]))) <|
  .fail (.mk 0 [] [])
def exN (o u:Int) (ks:List Ex):Ex:= .mk o [] u [] ks []
noncomputable def Zw (E:PM Ex):PM Ex:=
 EB [40] (Fq.bind fun a=>(FY [44]).bind fun _=>(listed Fq).bind fun l=>(FY [61]).bind fun _=>E.bind fun x=>(FY [105,110]).bind fun _=>E.bind fun y=>.pure (.mk 8 [] 0 (a::l) [x,y] []))
  (Fq.bind fun a=>(FY [61]).bind fun _=>E.bind fun x=>(FY [105,110]).bind fun _=>E.bind fun y=>.pure (.mk 7 a 0 [] [x,y] []))
noncomputable def cT (E:PM Ex):PM Al:=Ev.bind fun c=>(Hf Fq).bind fun l=>(FY [45,62]).bind fun _=>E.bind fun x=>.pure (.mk c l x)
def T7:Nat→Str
 |1=>[43]|2=>[45]|3=>[42]|4=>[47]|5=>[37]|6=>[60]|7=>[60,61]|_=>[61,61]
def NF (E:PM Ex):PM (List Ex):=(FY [40]).bind fun _=>E.bind fun x=>(FY [41]).bind fun _=>.pure [x]
def Qd (E:PM Ex):PM (List Ex):=(FY [40]).bind fun _=>E.bind fun x=>(FY [44]).bind fun _=>E.bind fun y=>(FY [41]).bind fun _=>.pure [x,y]
def Yp (E:PM Ex):PM (List Ex):=(FY [40]).bind fun _=>E.bind fun x=>(FY [44]).bind fun _=>E.bind fun y=>(FY [44]).bind fun _=>E.bind fun z=>(FY [41]).bind fun _=>.pure [x,y,z]
noncomputable def Yq (E:PM Ex):PM Ex:=
 EB [41] (.pure (exN 1 0 [])) (E.bind fun x=>EB [41] (.pure x) ((FY [44]).bind fun _=>(listed E).bind fun l=>.pure (exN 5 0 (x::l))))
def YC:PM Ex:=(FY [40]).bind fun _=>(EB [45] (It.map fun n=>-n) It).bind fun n=>(FY [41]).bind fun _=>.pure (exN 15 n [])
noncomputable def Hv (E:PM Ex):PM Ex:=
 .kind 3 (It.bind fun n=>.pure (exN 3 n [])) <|
 .kind 1 (FP.bind fun x=>.pure (.mk 4 x 0 [] [] [])) <|
 .kind 2 (Ev.bind fun x=>(Hf E).bind fun l=>.pure (.mk 6 x 0 [] l [])) <|
 EB [45] (It.bind fun n=>.pure (exN 3 (-n) [])) <|
 EB [116,114,117,101] (.pure (exN 2 1 [])) <|
 EB [102,97,108,115,101] (.pure (exN 2 0 [])) <|
 EB [40] (Yq E) <|
 EB [116,105,99,107] YC <|
 EB [114,97,105,115,101] ((NF E).bind fun l=>.pure (exN 16 0 l)) <|
 EB [110,101,119] ((Qd E).bind fun l=>.pure (exN 14 1 l)) <|
 EB [103,101,116] ((Qd E).bind fun l=>.pure (exN 14 2 l)) <|
 EB [115,101,116] ((Yp E).bind fun l=>.pure (exN 14 3 l)) <|
 EB [108,101,110] ((NF E).bind fun l=>.pure (exN 14 4 l)) <|
 EB [114,101,102] ((NF E).bind fun l=>.pure (exN 14 5 l)) <|
 EB [114,101,97,100] ((NF E).bind fun l=>.pure (exN 14 6 l)) <|
 EB [119,114,105,116,101] ((Qd E).bind fun l=>.pure (exN 14 7 l)) <|
 .fail (exN 0 0 [])
noncomputable def SY (E:PM Ex):Nat→Ex→PM Ex
 |0,a=>.pure a
 |n+1,a=>EB [40] ((closed E).bind fun l=>SY E n (exN 12 0 (a::l))) (.pure a)
noncomputable def Pc (E:PM Ex):PM Ex:=(Hv E).bind fun a=>SY E BC a
def HA (op:Int) (a b:Ex):Ex:=exN 13 op [a,b]
noncomputable def JV (E:PM Ex):Nat→Ex→PM Ex
 |0,a=>.pure a
 |n+1,a=>
  EB [42] ((Pc E).bind fun b=>JV E n (HA 3 a b)) <|
  EB [47] ((Pc E).bind fun b=>JV E n (HA 4 a b)) <|
  EB [37] ((Pc E).bind fun b=>JV E n (HA 5 a b)) <|
  .pure a
noncomputable def LK (E:PM Ex):PM Ex:=(Pc E).bind fun a=>JV E BC a
noncomputable def Rl (E:PM Ex):Nat→Ex→PM Ex
 |0,a=>.pure a
 |n+1,a=>
  EB [43] ((LK E).bind fun b=>Rl E n (HA 1 a b)) <|
  EB [45] ((LK E).bind fun b=>Rl E n (HA 2 a b)) <|
  .pure a
noncomputable def KV (E:PM Ex):PM Ex:=(LK E).bind fun a=>Rl E BC a
noncomputable def Up (E:PM Ex):PM Ex:=(KV E).bind fun a=>
 EB [60] ((KV E).bind fun b=>.pure (HA 6 a b)) <|
 EB [60,61] ((KV E).bind fun b=>.pure (HA 7 a b)) <|
 EB [61,61] ((KV E).bind fun b=>.pure (HA 8 a b)) <|
 .pure a
noncomputable def Bt:Nat→PM Ex
 |0=>.fail (exN 0 0 [])
 |n+1=>
  EB [108,101,116] (Zw (Bt n)) <|
  EB [105,102] ((Bt n).bind fun a=>(FY [116,104,101,110]).bind fun _=>(Bt n).bind fun b=>(FY [101,108,115,101]).bind fun _=>(Bt n).bind fun c=>.pure (exN 9 0 [a,b,c])) <|
  EB [109,97,116,99,104] ((Bt n).bind fun a=>(FY [119,105,116,104]).bind fun _=>(items (cT (Bt n)) [124] (by decide)).bind fun l=>(FY [101,110,100]).bind fun _=>.pure (.mk 10 [] 0 [] [a] l)) <|
  EB [102,110] ((FY [40]).bind fun _=>(closed FP).bind fun l=>(FY [45,62]).bind fun _=>(Bt n).bind fun a=>.pure (.mk 11 [] 0 l [a] [])) <|
  EB [116,114,121] ((Bt n).bind fun a=>(FY [99,97,116,99,104]).bind fun _=>Fq.bind fun x=>(FY [45,62]).bind fun _=>(Bt n).bind fun b=>(FY [101,110,100]).bind fun _=>.pure (.mk 17 x 0 [] [a,b] [])) <|
  Up (Bt n)
noncomputable def tyR:PM TE:=FZ BC
noncomputable def exR:PM Ex:=Bt BC
noncomputable def Zv:PM CE:=Ev.bind fun c=>(Hf tyR).bind fun l=>.pure ⟨c,l⟩
noncomputable def SN:PM DE:=Ev.bind fun d=>(Hf FP).bind fun vs=>(FY [61]).bind fun _=>(items Zv [124] (by decide)).bind fun cs=>(FY [59]).bind fun _=>.pure ⟨d,vs,cs⟩
noncomputable def X8:PM FE:=FP.bind fun f=>(FY [40]).bind fun _=>(closed FP).bind fun ps=>(FY [61]).bind fun _=>exR.bind fun b=>(FY [59]).bind fun _=>.pure ⟨f,ps,b⟩
noncomputable def LL:Nat→List DE→List FE→PM Pg
 |0,ds,fs=>.pure ⟨ds,fs⟩
 |n+1,ds,fs=>
  .kind 6 (.pure ⟨ds,fs⟩) <|
  EB [100,97,116,97] (SN.bind fun d=>LL n (ds++[d]) fs) <|
  EB [102,117,110] (X8.bind fun f=>LL n ds (fs++[f])) <|
  (PM.fail ()).bind fun _=>LL n ds fs
noncomputable def KY:PM Pg:=LL BC [] []
end Go.Ab
