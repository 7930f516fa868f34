/- Texts of programs in plain data. Names as tokens, in plain data. The tokens of formatted texts, in plain data: the pieces. The tokens of formatted texts, in plain data: types, expressions, programs. Conditions: none. -/
import Derived.Lib.ItoaNum
import Derived.Lib.Join
import Derived.Test.YtifplkldbbcldaaGreatDoorXQa
set_option linter.unusedSimpArgs false
set_option linter.unusedVariables false
set_option maxRecDepth 4000
set_option maxHeartbeats 8000000
open Option renaming bind_eq_bind→AS,bind_eq_some_iff→AD,bind_some→B3
open List renaming mem_cons→CN,mem_cons_self→Ae,mem_cons_of_mem→Ah,takeWhile_cons→FZ,length_cons→AE,length_drop→Ai,nil_append→A3,append_assoc→AT,cons_append→A0,contains_eq_mem→Dr,all_eq_true→A6,append_nil→AZ,mem_singleton→Dn,mem_append→BU,map_cons→AF,map_nil→AI
open Bool renaming and_eq_true→AN,or_eq_false_iff→Dq,not_eq_true→Qd,or_false→M9,or_eq_true→BT,not_eq_true'→CM,false_and→EX,and_false→D2,or_true→OW
open Except.ok renaming injEq→Gk
open Prod.mk renaming injEq→B6
namespace Go.Ab
mutual
def Ex.nb:Ex→Prop
 | .mk o n u ns ks al=>GU o n u ns ks.length al=true∧Ex.nbs ks∧Al.nbs al
def Ex.nbs:List Ex→Prop
 |[]=>True
 |t::l=>t.nb∧Ex.nbs l
def Al.nb:Al→Prop
 | .mk _ _ b=>b.nb
def Al.nbs:List Al→Prop
 |[]=>True
 |t::l=>t.nb∧Al.nbs l
end
theorem Ex.Nq:∀ {l:List Ex},Ex.nbs l↔∀t∈l,t.nb
 |[]=>by simp [Ex.nbs]
 |t::l=>by simp [Ex.nbs,Ex.Nq (l:=l)]
theorem Al.Nq:∀ {l:List Al},Al.nbs l↔∀t∈l,t.nb
 |[]=>by simp [Al.nbs]
 |t::l=>by simp [Al.nbs,Al.Nq (l:=l)]
theorem O8 {α:Type} {f:Nat→α→Option Nat} {Q:α→Prop}:∀(l:List α) (q r:Nat),(∀x∈l,∀a b,f a x=some b→Q x)→l.foldlM f q=some r→∀x∈l,Q x
 |[],_,_,_,_,x,hx=>by cases hx
 |y::l,q,r,hf,h,x,hx=>by
  rw [List.foldlM_cons,AS,AD] at h
  obtain ⟨b,hb,h⟩:=h
  rcases CN.1 hx with rfl|hx
  · exact hf _ (Ae ..) q b hb
  · exact O8 l b r (fun z hz=>hf z (Ah _ hz)) h x hx
theorem dH:∀(d q:Nat) (e:Ex) (r:Nat),vEx d q e=some r→e.nb
 |0,q,.mk ..,r,h=>by simp [vEx] at h
 |d+1,0,.mk ..,r,h=>by cases h
 |d+1,q+1,.mk o n u ns ks al,r,h=>by
  simp only [vEx] at h
  split at h
  · rename_i hn
    rw [AD] at h
    obtain ⟨c,hc,h⟩:=h
    rw [Ex.nb,Ex.Nq,Al.Nq]
    refine ⟨hn,O8 ks q c (fun x _ a b hab=>dH d a x b hab) hc,O8 al c r (fun x _ a b hab=>?_) h⟩
    obtain ⟨cc,vs,bd⟩:=x
    rw [Al.nb]
    exact dH d a bd b hab
  · cases h
def cms (l:List Str):Str:=Lib.join l [44,32]
def JT (s:Str):Str:=40::(s++[41])
def Im (l:List Str):Str:=if l=[] then [] else JT (cms l)
def Il (l:List Str):Str:=JT (cms l)
def shown (s:Str):Str:=if s=[] then [95] else s
def at0 (l:List Str) (i:Nat):Str:=l.getD i []
def tyN (k:Int) (n:Str) (ts:List Str):Str:=
 if k=1 then [105,110,116] else if k=2 then [98,111,111,108] else if k=3 then [117,110,105,116]
  else if k=7 then [97,114,114,97,121]++Im ts else if k=8 then [114,101,102]++Im ts
  else if k=9 then [102,110]++(Il ts.dropLast++([32,45,62,32]++ts.getLastD []))
  else n++Im ts
mutual
def Cr:TE→Str
 | .mk k n l=>tyN k n (bR l)
def bR:List TE→List Str
 |[]=>[]
 |t::l=>Cr t::bR l
end
theorem Ph:∀l:List TE,bR l=l.map Cr
 |[]=>rfl
 |t::l=>by rw [bR,Ph l];rfl
def Eb (u:Int):Nat:=if u=1∨u=2 then 2 else if u=3∨u=4∨u=5 then 3 else 1
def lvl:Ex→Nat
 | .mk o _ u _ _ _=>if o=7∨o=8∨o=9∨o=10∨o=11∨o=17 then 0 else if o=13 then Eb u else if o=12 then 4 else 5
def pl (d:Nat) (k:Ex) (t:Str):Str:=if lvl k < d then JT t else t
def opT (u:Int):Str:=VB u.toNat
def prT (u:Int):Str:=if u=1 then [110,101,119] else if u=2 then [103,101,116] else if u=3 then [115,101,116] else if u=4 then [108,101,110] else if u=5 then [114,101,102] else if u=6 then [114,101,97,100] else [119,114,105,116,101]
def Mc:Ex→Bool
 | .mk o _ _ _ ks _=>o==6&&ks.isEmpty
def yT (ks:List Ex) (ts:List Str):Str:=match ks with
 |[]=>Il ts.tail
 |k::_=>(if Mc k then JT (at0 ts 0) else pl 4 k (at0 ts 0))++Il ts.tail
def yX (u:Int) (ks:List Ex) (ts:List Str):Str:=match ks with
 |[a,b]=>pl (if Eb u=1 then 2 else Eb u) a (at0 ts 0)++(32::(opT u++(32::pl (if Eb u=1 then 2 else Eb u+1) b (at0 ts 1))))
 |_=>[]
def Pb (o:Int) (n:Str) (u:Int) (ns:List Str) (ks:List Ex) (ts:List Str) (as':List Str):Str:=
 if o=7 then [108,101,116,32]++(shown n++([32,61,32]++(at0 ts 0++([32,105,110,32]++at0 ts 1))))
                                                                   else if o=8 then [108,101,116,32]++(Im (ns.map shown)++([32,61,32]++(at0 ts 0++([32,105,110,32]++at0 ts 1))))
                                                                   else if o=9 then [105,102,32]++(at0 ts 0++([32,116,104,101,110,32]++(at0 ts 1++([32,101,108,115,101,32]++at0 ts 2))))
                                                                   else if o=10 then [109,97,116,99,104,32]++(at0 ts 0++([32,119,105,116,104,32]++(Lib.join as' [32,124,32]++[32,101,110,100])))
                                                                   else if o=11 then [102,110]++(Il ns++([32,45,62,32]++at0 ts 0))
                                                                   else if o=17 then [116,114,121,32]++(at0 ts 0++([32,99,97,116,99,104,32]++(shown n++([32,45,62,32]++(at0 ts 1++[32,101,110,100])))))
                                                                   else if o=13 then yX u ks ts
                                                                   else if o=12 then yT ks ts
                                                                   else if o=1 then [40,41]
                                                                   else if o=2 then (if u=1 then [116,114,117,101] else [102,97,108,115,101])
                                                                   else if o=3 then Lib.itoa u
                                                                   else if o=5 then Il ts
                                                                   else if o=14 then prT u++Il ts
                                                                   else if o=16 then [114,97,105,115,101]++Il ts
                                                                   else if o=15 then [116,105,99,107]++JT (Lib.itoa u)
                                                                   else n++Im ts
def alT (c:Str) (vs:List Str) (b:Str):Str:=c++(Im (vs.map shown)++([32,45,62,32]++b))
mutual
def Az:Ex→Str
 | .mk o n u ns ks al=>Pb o n u ns ks (WN ks) (Jm al)
def WN:List Ex→List Str
 |[]=>[]
 |t::l=>Az t::WN l
def Mr:Al→Str
 | .mk c vs b=>alT c vs (Az b)
def Jm:List Al→List Str
 |[]=>[]
 |t::l=>Mr t::Jm l
end
theorem M6:∀l:List Ex,WN l=l.map Az
 |[]=>rfl
 |t::l=>by rw [WN,M6 l];rfl
theorem V4:∀l:List Al,Jm l=l.map Mr
 |[]=>rfl
 |t::l=>by rw [Jm,V4 l];rfl
def fmtC (c:CE):Str:=c.name++Im (c.args.map Cr)
def UB (d:DE):Str:=[100,97,116,97,32]++(d.name++(Im d.vars++([32,61,32]++(Lib.join (d.cons.map fmtC) [32,124,32]++[59,10]))))
def V5 (f:FE):Str:=[102,117,110,32]++(f.name++(Il f.params++([32,61,32]++(Az f.body++[59,10]))))
def Wa (p:Pg):Str:=(p.data.map UB).flatten++(p.Rf.map V5).flatten
end Go.Ab
namespace Go.Ab
theorem qD {a b:Int} (h:a≠b):(a==b)=false:=by simpa using h
def zZ (s:Str):Prop:=∃b r,s=b::r∧MV b.toNat=true∧(∀x∈s,CL GK x=true)∧s.length≤24∧SE s=false
theorem takeWhile_eq {α:Type} {p:α→Bool}:∀ {l:List α},l.takeWhile p=l→∀x∈l,p x=true
 |[],_,x,hx=>by cases hx
 |y::l,h,x,hx=>by
  rw [FZ] at h
  split at h
  · rename_i hy
    rcases CN.1 hx with rfl|hx
    · exact hy
    · exact takeWhile_eq (by simpa using h) x hx
  · cases h
theorem Vg {b:UInt8} (h:MV b.toNat=true):Ts b.toNat=false∧(b==35)=false∧KY b.toNat=false:=by
 simp only [MV,AN,decide_eq_true_eq] at h
 refine ⟨?_,?_,?_⟩
 · simp only [Ts,Dq]
   refine ⟨⟨⟨?_,?_⟩,?_⟩,?_⟩<;>(apply qD;omega)
 · cases hb:(b==35) with
   |false=>rfl
   |true=>
    rw [beq_iff_eq] at hb;subst hb
    have:=h.1
    exact absurd this (by decide)
 · simp only [KY,Bool.and_eq_false_iff,decide_eq_false_iff_not];omega
theorem KU:∀(n:Nat) (rest:Str) (i:Nat) (acc:List Tok),(DZ n rest i acc).2.2=0→(DZ n rest i acc).1=[]∨∃tl,(DZ n rest i acc).1=acc++tl∧∀t∈tl,t.text.length≤rest.length
 |0,rest,i,acc,_=>.inl rfl
 |n+1,[],i,acc,_=>.inr ⟨[⟨6,[],i⟩],rfl,fun t ht=>by simp at ht;simp [ht]⟩
 |n+1,b::r,i,acc,h=>by
  rw [DZ] at h ⊢
  split at h
  · rename_i hb
    rw [if_pos hb]
    rcases KU n r (i+1) acc h with h|⟨tl,h1,h2⟩
    · exact .inl h
    · exact .inr ⟨tl,h1,fun t ht=>by have:=h2 t ht;simp only [AE];omega⟩
  · rename_i hb
    rw [if_neg hb]
    split at h
    · rename_i hc
      rw [if_pos hc]
      rcases KU n _ _ acc h with h|⟨tl,h1,h2⟩
      · exact .inl h
      · exact .inr ⟨tl,h1,fun t ht=>by have:=h2 t ht;rw [Ai] at this;omega⟩
    · rename_i hc
      rw [if_neg hc]
      cases hs:D3 (b::r) with
      |error e=>
       rw [hs] at h
       simp only at h
       rcases PL hs with rfl|rfl<;>cases h
      |ok x=>
       obtain ⟨k,t⟩:=x
       rw [hs] at h
       simp only at h ⊢
       rcases KU n _ _ _ h with h|⟨tl,h1,h2⟩
       · exact .inl h
       · refine .inr ⟨⟨k,t,i⟩::tl,by rw [h1];simp,fun u hu=>?_⟩
         rcases CN.1 hu with rfl|hu
         · exact (PN hs).2
         · have:=h2 u hu;rw [Ai] at this;omega
theorem YP {s:Str} (h:DY s=true):zZ s:=by
 rw [DY,GJ] at h
 simp only [AN,beq_iff_eq] at h
 obtain ⟨h0,h1,h2⟩:=h
 rw [BJ] at h0 h1 h2
 split at h0
 · cases h0
 · rename_i hle
   rw [if_neg hle] at h1 h2
   match s,h0,h1,h2 with
   |[],_,h1,_=>simp [DZ] at h1
   |b::r,h0,h1,h2=>
    rw [show (b::r).length+1=(r.length+1)+1 from rfl] at h0 h1 h2
    rw [DZ] at h0 h1 h2
    have hsm:∀(n:Nat) (rest:Str) (i:Nat),rest.length < (b::r).length→(DZ n rest i []).2.2=0→(DZ n rest i []).1.length=2→(match (DZ n rest i []).1 with|[]=>false|a::_=>decide (a.kind=1)&&decide (a.text=b::r))=true→False:=by
     intro n rest i hlt g0 g1 g2
     rcases KU n rest i [] g0 with h|⟨tl,h,hm⟩
     · rw [h] at g1;cases g1
     · rw [h,A3] at g1 g2
       cases tl with
       |nil=>cases g1
       |cons a tl=>
        simp only [AN,decide_eq_true_eq] at g2
        have:=hm a (Ae ..)
        rw [g2.2] at this
        omega
    have hcv:∀(l:List Tok),(match l with|[]=>false|a::_=>a.kind==1&&a.text==b::r)=true→(match l with|[]=>false|a::_=>decide (a.kind=1)&&decide (a.text=b::r))=true:=by
     intro l hl
     cases l with
     |nil=>cases hl
     |cons a l=>simpa using hl
    split at h0
    · rename_i hb
      rw [if_pos hb] at h1 h2
      exact (hsm _ _ _ (by simp) h0 h1 (hcv _ h2)).elim
    · rename_i hb
      rw [if_neg hb] at h1 h2
      split at h0
      · rename_i hc
        rw [if_pos hc] at h1 h2
        refine (hsm _ _ _ ?_ h0 h1 (hcv _ h2)).elim
        rw [beq_iff_eq] at hc
        subst hc
        have:1≤cmt (35::r):=by simp [cmt]
        rw [Ai];simp only [AE];omega
      · rename_i hc
        rw [if_neg hc] at h1 h2
        cases hs:D3 (b::r) with
        |error e=>
         rw [hs] at h0
         rcases PL hs with rfl|rfl<;>cases h0
        |ok x=>
         obtain ⟨k,t⟩:=x
         rw [hs] at h0 h1 h2
         rcases KU _ _ _ _ h0 with h|⟨tl,h,hm⟩
         · rw [h] at h1;cases h1
         · rw [h] at h2
           replace h2:(k==1&&t==b::r)=true:=h2
           rw [AN,beq_iff_eq,beq_iff_eq] at h2
           obtain ⟨rfl,rfl⟩:=h2
           rw [D3] at hs
           split at hs
           · rename_i hlu
             split at hs
             · cases hs
             · rename_i hlen
               split at hs
               · cases hs
               · rename_i hup
                 split at hs
                 · cases hs
                 · rename_i hkey
                   simp only [Gk,B6,true_and] at hs
                   rw [hs] at hlen hkey
                   refine ⟨b,r,rfl,?_,takeWhile_eq hs,by simpa using hlen,by simpa using hkey⟩
                   rw [Qd] at hup
                   rw [hup,M9] at hlu
                   exact hlu
           · split at hs
             · split at hs
               · cases hs
               · split at hs<;>cases hs
             · split at hs<;>cases hs
end Go.Ab
namespace Go.Ab
abbrev KT:=Int×Str
def Nt:Str→Bool
 |[]=>true
 |b::_=>[10,32,40,41,44,59].contains b
def OZ (s:Str) (ks:List KT) (rest:Str):Prop:=∀n i acc,(s++rest).length < n→∃n' i' acc',strip acc'=strip acc++ks∧rest.length < n'∧DZ n (s++rest) i acc=DZ n' rest i' acc'
def FA (s:Str) (ks:List KT):Prop:=∀rest,Nt rest=true→OZ s ks rest
def G7 (s:Str) (ks:List KT):Prop:=∀rest,OZ s ks rest
theorem OZ.trans {s1 s2:Str} {k1 k2:List KT} {rest:Str} (h1:OZ s1 k1 (s2++rest)) (h2:OZ s2 k2 rest):OZ (s1++s2) (k1++k2) rest:=fun n i acc hn=>by
 rw [AT] at hn ⊢
 obtain ⟨n1,i1,a1,e1,l1,g1⟩:=h1 n i acc hn
 obtain ⟨n2,i2,a2,e2,l2,g2⟩:=h2 n1 i1 a1 l1
 exact ⟨n2,i2,a2,by rw [e2,e1,AT],l2,by rw [g1,g2]⟩
theorem OZ.nil (rest:Str):OZ [] [] rest:=fun n i acc hn=>⟨n,i,acc,by simp,hn,rfl⟩
theorem G7.s {s:Str} {ks:List KT} (h:G7 s ks):FA s ks:=fun r _=>h r
theorem G7.nil:G7 [] []:=OZ.nil
theorem G7.a {s1 s2:Str} {k1 k2:List KT} (h1:G7 s1 k1) (h2:G7 s2 k2):G7 (s1++s2) (k1++k2):=fun r=>(h1 _).trans (h2 r)
theorem G7.ss {s1 s2:Str} {k1 k2:List KT} (h1:G7 s1 k1) (h2:FA s2 k2):FA (s1++s2) (k1++k2):=fun r hr=>(h1 _).trans (h2 r hr)
theorem Ys {s r:Str} (h:Nt s=true) (hn:s≠[]):Nt (s++r)=true:=by
 cases s with
 |nil=>exact absurd rfl hn
 |cons b l=>exact h
theorem FA.a {s1 s2:Str} {k1 k2:List KT} (h1:FA s1 k1) (hs:Nt s2=true) (hn:s2≠[]) (h2:G7 s2 k2):G7 (s1++s2) (k1++k2):=fun r=>(h1 _ (Ys hs hn)).trans (h2 r)
theorem FA.ss {s1 s2:Str} {k1 k2:List KT} (h1:FA s1 k1) (hs:Nt s2=true) (h2:FA s2 k2):FA (s1++s2) (k1++k2):=fun r hr=>by
 by_cases hn:s2=[]
 · subst hn;exact (h1 _ hr).trans (h2 r hr)
 · exact (h1 _ (Ys hs hn)).trans (h2 r hr)
theorem cJ {s rest:Str} {k:Int} (hs:D3 (s++rest)= .ok (k,s)) (hb:∀b l,s=b::l→Ts b.toNat=false∧(b==35)=false):OZ s [(k,s)] rest:=fun n i acc hn=>by
 have hl:=(PN hs).1
 cases s with
 |nil=>simp at hl
 |cons b l=>
  obtain ⟨h1,h2⟩:=hb b l rfl
  cases n with
  |zero=>omega
  |succ n=>
   refine ⟨n,i+(b::l).length,acc++[⟨k,b::l,i⟩],by simp [strip],by simp at hn ⊢;omega,?_⟩
   rw [A0] at hs ⊢
   rw [DZ,if_neg (by rw [h1];decide),if_neg (by rw [h2];decide),hs]
   simp only
   rw [← A0,List.drop_left]
theorem aK {b:UInt8} (hb:Ts b.toNat=true):G7 [b] []:=fun rest n i acc hn=>by
 cases n with
 |zero=>omega
 |succ n=>exact ⟨n,i+1,acc,by simp,by simp at hn;omega,by rw [A0,A3,DZ,if_pos hb]⟩
theorem IQ:G7 [32] []:=aK (by decide)
theorem zT:G7 [10] []:=aK (by decide)
theorem dF {p:UInt8→Bool} {s rest:Str} (h:∀x∈s,p x=true) (hr:∀b l,rest=b::l→p b=false):(s++rest).takeWhile p=s:=by
 induction s with
 |nil=>
  cases rest with
  |nil=>rfl
  |cons b l=>rw [A3,FZ,hr b l rfl];rfl
 |cons x s ih=>rw [A0,FZ,h x (Ae ..),if_pos rfl,ih (fun y hy=>h y (Ah _ hy))]
theorem tL {rest:Str} (h:Nt rest=true):∀b l,rest=b::l→CL GK b=false:=by
 rintro b l rfl
 have:∀c∈([10,32,40,41,44,59]:Str),CL GK c=false:=by decide
 exact this b (by simpa [Nt,Dr] using h)
theorem tK {rest:Str} (h:Nt rest=true):∀b l,rest=b::l→CL Eg b=false:=by
 rintro b l rfl
 have:∀c∈([10,32,40,41,44,59]:Str),CL Eg c=false:=by decide
 exact this b (by simpa [Nt,Dr] using h)
theorem YN {b:UInt8} {r:Str} (hlu:(MV b.toNat||KY b.toNat)=true) (hw:∀x∈b::r,CL GK x=true) (hl:(b::r).length≤24):FA (b::r) [(if KY b.toNat then 2 else if SE (b::r) then 4 else 1,b::r)]:=fun rest hr=>by
 refine cJ ?_ (fun c l e=>?_)
 · have ht:=dF hw (tL hr)
   rw [A0] at ht ⊢
   rw [D3,if_pos hlu,ht,if_neg (by simp only [decide_eq_true_eq];omega)]
   split
   · rfl
   · split<;>rfl
 · cases e
   simp only [MV,KY,BT,AN,decide_eq_true_eq] at hlu
   refine ⟨?_,?_⟩
   · simp only [Ts,Dq]
     refine ⟨⟨⟨?_,?_⟩,?_⟩,?_⟩<;>(apply qD;omega)
   · cases hb:(b==35) with
     |false=>rfl
     |true=>
      rw [beq_iff_eq] at hb;subst hb
      exfalso
      rcases hlu with h|h
      · have:=h.1;revert this;decide
      · have:=h.1;revert this;decide
theorem ND {s:Str} (h:DY s=true):FA s [(1,s)]:=by
 obtain ⟨b,r,rfl,h1,h2,h3,h4⟩:=YP h
 have:=YN (b:=b) (r:=r) (by rw [h1];rfl) h2 h3
 have hu:KY b.toNat=false:=(Vg h1).2.2
 rw [hu,h4] at this
 exact this
theorem vP {s:Str} (h:SE s=true) (b:UInt8) (r:Str) (e:s=b::r) (hl:MV b.toNat=true) (hw:∀x∈b::r,CL GK x=true) (hn:(b::r).length≤24):FA s [(4,s)]:=by
 subst e
 have:=YN (b:=b) (r:=r) (by rw [hl];rfl) hw hn
 have hu:KY b.toNat=false:=(Vg hl).2.2
 rw [hu,h] at this
 exact this
theorem UI {s:Str} (h:SE s=true):FA s [(4,s)]:=by
 have ha:FI.all (fun w=>match w with|[]=>false|b::r=>MV b.toNat&&(b::r).all (CL GK)&&decide ((b::r).length≤24))=true:=by decide
 have hm:s∈FI:=by
  simp only [SE,List.any_eq_true,beq_iff_eq] at h
  obtain ⟨x,hx,rfl⟩:=h
  exact hx
 have:=A6.1 ha s hm
 match s,this,h with
 |b::r,this,h=>
  simp only [AN,decide_eq_true_eq,A6] at this
  exact vP h b r rfl this.1.1 this.1.2 this.2
theorem fB {s rest:Str} (h0:s∈Tl) (h1:∀b l,s=b::l→(MV b.toNat||KY b.toNat)=false∧Eg b.toNat=false∧Ts b.toNat=false∧(b==35)=false) (h2:(s++rest).take (Fy (s++rest))=s):OZ s [(5,s)] rest:=by
 cases s with
 |nil=>exact absurd h0 (by decide)
 |cons b l=>
  obtain ⟨a1,a2,a3,a4⟩:=h1 b l rfl
  refine cJ ?_ (fun c l' e=>by cases e;exact ⟨a3,a4⟩)
  rw [A0] at h2 ⊢
  rw [D3,if_neg (by rw [a1];decide),if_neg (by rw [a2];decide),if_neg (by rw [h2];simp),h2]
theorem JX (s:Str) (h0:s∈Tl) (h:s≠[45]∧s≠[60]∧s≠[61]):G7 s [(5,s)]:=fun rest=>by
 have hall:∀s∈Tl,s≠[45]∧s≠[60]∧s≠[61]→(match s with|[]=>false|b::_=>!(MV b.toNat||KY b.toNat)&& !Eg b.toNat&& !Ts b.toNat&& !(b==35))=true∧((∃b,s=[b]∧Zk b=1∧(b==45)=false∧(b==60)=false∧(b==61)=false)∨∃b c,s=[b,c]∧Zl b c=true):=by
  intro s hs hn
  simp only [Tl,CN,List.not_mem_nil,or_false] at hs
  rcases hs with rfl|rfl|rfl|rfl|rfl|rfl|rfl|rfl|rfl|rfl|rfl|rfl|rfl|rfl|rfl|rfl<;>first
   |exact ⟨by decide,.inr ⟨_,_,rfl,by decide⟩⟩
   |exact ⟨by decide,.inl ⟨_,rfl,by decide,by decide,by decide,by decide⟩⟩
   |exact absurd rfl hn.1
   |exact absurd rfl hn.2.1
   |exact absurd rfl hn.2.2
 obtain ⟨f1,f2⟩:=hall s h0 h
 refine fB h0 (fun b l e=>?_) ?_
 · subst e
   simp only [AN,CM] at f1
   exact ⟨f1.1.1.1,f1.1.1.2,f1.1.2,f1.2⟩
 · rcases f2 with ⟨b,rfl,g1,g2,g3,g4⟩|⟨b,c,rfl,g⟩
   · cases rest with
     |nil=>rw [AZ,Fy,g1];rfl
     |cons c l=>
      have:Zl b c=false:=by
       simp only [Zl,Dq,List.cons_beq_cons,g2,g3,g4,EX,and_self]
      rw [A0,A3,Fy,this,if_neg (by decide),g1];rfl
   · rw [A0,A0,A3,Fy,if_pos g];rfl
theorem dA (b:UInt8) (hb:b=45∨b=60∨b=61) {rest:Str} (hr:∀c l,rest=c::l→(c==61)=false∧(c==62)=false):OZ [b] [(5,[b])] rest:=by
 refine fB (by rcases hb with rfl|rfl|rfl<;>decide) (fun c l e=>?_) ?_
 · cases e
   rcases hb with rfl|rfl|rfl<;>decide
 · cases rest with
   |nil=>rcases hb with rfl|rfl|rfl<;>rfl
   |cons c l=>
    obtain ⟨g1,g2⟩:=hr c l rfl
    have:Zl b c=false:=by
     simp only [Zl,Dq,List.cons_beq_cons,g1,g2,D2,EX,and_self]
    rw [A0,A3,Fy,this,if_neg (by decide)]
    rcases hb with rfl|rfl|rfl<;>rfl
theorem Yt {rest:Str} (h:Nt rest=true):∀c l,rest=c::l→(c==61)=false∧(c==62)=false:=by
 rintro b l rfl
 have:∀c∈([10,32,40,41,44,59]:Str),(c==61)=false∧(c==62)=false:=by decide
 exact this b (by simpa [Nt,Dr] using h)
end Go.Ab
namespace Go.Ab
theorem u8n {n:Nat} (h:n < 256):(UInt8.ofNat n).toNat=n:=by simp [Nat.mod_eq_of_lt h]
theorem iK:∀(n:Nat),∀x∈Lib.decDigits n,CL Eg x=true:=by
 intro n
 induction n using Nat.strongRecOn with
 |_ n ih=>
 intro x hx
 rw [Lib.decDigits] at hx
 have hd:∀m,m < 10→CL Eg (UInt8.ofNat (48+m))=true:=fun m hm=>by
  simp only [CL,Eg,u8n (show 48+m < 256 by omega),AN,decide_eq_true_eq];omega
 split at hx
 · rename_i h
   rw [Dn] at hx;rw [hx];exact hd n h
 · rename_i h
   rcases BU.1 hx with hx|hx
   · exact ih (n / 10) (by omega) x hx
   · rw [Dn] at hx;rw [hx];exact hd _ (by omega)
theorem bE:∀(s t:Str) (v:Int),Ez (s++t) v=(Ez s v).bind (Ez t)
 |[],t,v=>rfl
 |b::s,t,v=>by
  rw [A0,Ez,Ez]
  split
  · rfl
  · exact bE s t _
theorem qT:∀(n:Nat),n≤1000000→Ez (Lib.decDigits n) 0=some (n:Int):=by
 intro n
 induction n using Nat.strongRecOn with
 |_ n ih=>
 intro hn
 have hw:∀m,m < 10→IntKind.u8.wrap (((UInt8.ofNat (48+m)).toNat:Int) - 48)=m:=fun m hm=>by
  rw [u8n (by omega)]
  have:IntKind.u8.wrap (((48+m:Nat):Int) - 48)=(((48+m:Nat):Int) - 48) % 256:=rfl
  rw [this];omega
 rw [Lib.decDigits]
 split
 · rename_i h
   rw [Ez,hw n h,if_neg (by omega),Ez]
   congr 1;omega
 · rename_i h
   rw [bE,ih (n / 10) (by omega) (by omega),B3,Ez,hw _ (by omega),if_neg (by omega),Ez]
   congr 1;omega
theorem kZ:∀(n:Nat),1≤n→∃b l,Lib.decDigits n=b::l∧(b==48)=false:=by
 intro n
 induction n using Nat.strongRecOn with
 |_ n ih=>
 intro hn
 rw [Lib.decDigits]
 split
 · rename_i h
   refine ⟨_,[],rfl,?_⟩
   cases hb:(UInt8.ofNat (48+n)==48) with
   |false=>rfl
   |true=>
    rw [beq_iff_eq] at hb
    have:=congrArg UInt8.toNat hb
    rw [u8n (by omega)] at this
    have h2:(48:UInt8).toNat=48:=rfl
    omega
 · rename_i h
   obtain ⟨b,l,e,hb⟩:=ih (n / 10) (by omega) (by omega)
   exact ⟨b,l++[_],by rw [e];rfl,hb⟩
theorem wH {n:Nat} (h:n≤1000000):Qw (Lib.decDigits n)=n:=by rw [Qw,qT n h];rfl
theorem lL {n:Nat} (h:n≤1000000):FA (Lib.decDigits n) [(3,Lib.decDigits n)]:=fun rest hr=>by
 have ha:=iK n
 have hv:=qT n h
 have hh:∃b l,Lib.decDigits n=b::l∧(b==48&&decide ((b::l).length>1))=false:=by
  by_cases h0:n=0
  · subst h0;exact ⟨48,[],by rw [Lib.decDigits];rfl,rfl⟩
  · obtain ⟨b,l,e,hb⟩:=kZ n (by omega)
    exact ⟨b,l,e,by rw [hb];rfl⟩
 obtain ⟨b,l,e,h48⟩:=hh
 rw [e] at ha hv ⊢
 have hd:=ha b (Ae ..)
 simp only [CL] at hd
 have hdn:=hd
 simp only [Eg,AN,decide_eq_true_eq] at hdn
 have ht:=dF ha (tK hr)
 refine cJ ?_ (fun c l' e'=>?_)
 · rw [A0] at ht ⊢
   have hlu:¬(MV b.toNat||KY b.toNat)=true:=by
    simp only [MV,KY,BT,AN,decide_eq_true_eq];omega
   rw [D3,if_neg hlu,if_pos hd,ht,h48,if_neg (by decide),hv];rfl
 · cases e'
   refine ⟨?_,?_⟩
   · simp only [Ts,Dq]
     refine ⟨⟨⟨?_,?_⟩,?_⟩,?_⟩<;>(apply qD;omega)
   · cases hb:(b==35) with
     |false=>rfl
     |true=>
      rw [beq_iff_eq] at hb;subst hb
      exact absurd hdn.1 (by decide)
def Tm (u:Int):List KT:=if u < 0 then [(5,[45]),(3,Lib.decDigits u.natAbs)] else [(3,Lib.decDigits u.toNat)]
theorem eZ {u:Int} (h1: -1000000≤u) (h2:u≤1000000):FA (Lib.itoa u) (Tm u):=by
 unfold Lib.itoa Tm
 split
 · rename_i h
   intro rest hr
   refine OZ.trans (s1:=[45]) (k1:=[(5,[45])]) (dA 45 (.inl rfl) ?_) (lL (by omega) rest hr)
   intro c l e
   have hall:∀x:UInt8,CL Eg x=true→(x==61)=false∧(x==62)=false:=fun x hx=>by
    simp only [CL,Eg,AN,decide_eq_true_eq] at hx
    constructor
    · cases hb:(x==61) with
      |false=>rfl
      |true=>rw [beq_iff_eq] at hb;subst hb;exact absurd hx.2 (by decide)
    · cases hb:(x==62) with
      |false=>rfl
      |true=>rw [beq_iff_eq] at hb;subst hb;exact absurd hx.2 (by decide)
   obtain ⟨b,l2,e2⟩:∃b l2,Lib.decDigits u.natAbs=b::l2:=by
    obtain ⟨b,l2,e2,_⟩:=kZ u.natAbs (by omega)
    exact ⟨b,l2,e2⟩
   have hb:=hall b (iK u.natAbs b (by rw [e2];exact Ae ..))
   rw [e2] at e
   cases e
   exact hb
 · exact lL (by omega)
theorem Vz {s:Str} (h:upperB s=true):∃b r,s=b::r∧KY b.toNat=true∧(∀x∈b::r,CL GK x=true)∧(b::r).length≤24:=by
 rw [upperB,GJ] at h
 simp only [AN,beq_iff_eq] at h
 obtain ⟨h0,h1,h2⟩:=h
 rw [BJ] at h0 h1 h2
 split at h0
 · cases h0
 · rename_i hle
   rw [if_neg hle] at h1 h2
   match s,h0,h1,h2 with
   |[],_,h1,_=>simp [DZ] at h1
   |b::r,h0,h1,h2=>
    rw [show (b::r).length+1=(r.length+1)+1 from rfl] at h0 h1 h2
    rw [DZ] at h0 h1 h2
    have hsm:∀(n:Nat) (rest:Str) (i:Nat),rest.length < (b::r).length→(DZ n rest i []).2.2=0→(DZ n rest i []).1.length=2→(match (DZ n rest i []).1 with|[]=>false|a::_=>a.kind==2&&a.text==b::r)=true→False:=by
     intro n rest i hlt g0 g1 g2
     rcases KU n rest i [] g0 with h|⟨tl,h,hm⟩
     · rw [h] at g1;cases g1
     · rw [h,A3] at g1 g2
       cases tl with
       |nil=>cases g1
       |cons a tl=>
        simp only [AN,beq_iff_eq] at g2
        have:=hm a (Ae ..)
        rw [g2.2] at this
        omega
    split at h0
    · rename_i hb
      rw [if_pos hb] at h1 h2
      exact (hsm _ _ _ (by simp) h0 h1 h2).elim
    · rename_i hb
      rw [if_neg hb] at h1 h2
      split at h0
      · rename_i hc
        rw [if_pos hc] at h1 h2
        refine (hsm _ _ _ ?_ h0 h1 h2).elim
        rw [beq_iff_eq] at hc
        subst hc
        have:1≤cmt (35::r):=by simp [cmt]
        rw [Ai];simp only [AE];omega
      · rename_i hc
        rw [if_neg hc] at h1 h2
        cases hs:D3 (b::r) with
        |error e=>
         rw [hs] at h0
         rcases PL hs with rfl|rfl<;>cases h0
        |ok x=>
         obtain ⟨k,t⟩:=x
         rw [hs] at h0 h1 h2
         rcases KU _ _ _ _ h0 with h|⟨tl,h,hm⟩
         · rw [h] at h1;cases h1
         · rw [h] at h2
           replace h2:(k==2&&t==b::r)=true:=h2
           rw [AN,beq_iff_eq,beq_iff_eq] at h2
           obtain ⟨rfl,rfl⟩:=h2
           rw [D3] at hs
           split at hs
           · split at hs
             · cases hs
             · rename_i hlen
               split at hs
               · rename_i hup
                 simp only [Gk,B6,true_and] at hs
                 rw [hs] at hlen
                 exact ⟨b,r,rfl,hup,takeWhile_eq hs,by simpa using hlen⟩
               · split at hs<;>cases hs
           · split at hs
             · split at hs
               · cases hs
               · split at hs<;>cases hs
             · split at hs<;>cases hs
theorem Oo {s:Str} (h:upperB s=true):FA s [(2,s)]:=by
 obtain ⟨b,r,rfl,h1,h2,h3⟩:=Vz h
 have:=YN (b:=b) (r:=r) (by rw [h1,OW]) h2 h3
 rw [h1,if_pos rfl] at this
 exact this
def shK (s:Str):List KT:=if s=[] then [(5,[95])] else [(1,s)]
theorem Vf {s:Str} (h:GM s=true):FA (shown s) (shK s):=by
 unfold shown shK
 split
 · exact (JX [95] (by decide) (by decide)).s
 · rename_i hs
   simp only [GM,BT,beq_iff_eq] at h
   rcases h with h|h
   · exact absurd h hs
   · exact ND h
def cmK (l:List (List KT)):List KT:=[(5,[44])].intercalate l
def Hu (k:List KT):List KT:=(5,[40])::(k++[(5,[41])])
def VC (l:List (List KT)):List KT:=if l=[] then [] else Hu (cmK l)
def Le (l:List (List KT)):List KT:=Hu (cmK l)
theorem lB {α:Type} (sep x:List α):sep.intercalate [x]=x:=by simp [List.intercalate]
theorem b9 {α:Type} (sep x y:List α) (l:List (List α)):sep.intercalate (x::y::l)=x++(sep++sep.intercalate (y::l)):=by
 simp [List.intercalate,List.intersperse]
theorem Uv {α:Type} {sep:Str} {ks:List KT} (hs:G7 sep ks) (hst:Nt sep=true) (hne:sep≠[]) (f:α→Str) (g:α→List KT):∀l:List α,(∀x∈l,FA (f x) (g x))→FA (Lib.join (l.map f) sep) (ks.intercalate (l.map g))
 |[],_=>G7.nil.s
 |[x],h=>by
  simp only [Lib.join,AF,AI,lB]
  exact h x (Ae ..)
 |x::y::l,h=>by
  have ih:=Uv hs hst hne f g (y::l) (fun z hz=>h z (Ah _ hz))
  simp only [Lib.join,AF,b9] at ih ⊢
  exact (h x (Ae ..)).ss (Ys hst hne) (hs.ss ih)
theorem oE:G7 [44,32] [(5,[44])]:=(JX [44] (by decide) (by decide)).a IQ
theorem rS:G7 [40] [(5,[40])]:=JX _ (by decide) (by decide)
theorem rW:G7 [41] [(5,[41])]:=JX _ (by decide) (by decide)
theorem Ux {s:Str} {k:List KT} (h:FA s k):G7 (JT s) (Hu k):=rS.a (h.a rfl (by decide) rW)
theorem lI {α:Type} (f:α→Str) (g:α→List KT) (l:List α) (h:∀x∈l,FA (f x) (g x)):FA (cms (l.map f)) (cmK (l.map g)):=Uv oE rfl (by decide) f g l h
theorem Sl {α:Type} (f:α→Str) (g:α→List KT) (l:List α) (h:∀x∈l,FA (f x) (g x)):G7 (Im (l.map f)) (VC (l.map g)):=by
 unfold Im VC
 cases l with
 |nil=>exact G7.nil
 |cons x l=>exact Ux (lI f g (x::l) h)
theorem Uw {α:Type} (f:α→Str) (g:α→List KT) (l:List α) (h:∀x∈l,FA (f x) (g x)):G7 (Il (l.map f)) (Le (l.map g)):=Ux (lI f g l h)
theorem NP (l:List Str) {r:Str} (hr:Nt r=true):Nt (Im l++r)=true:=by
 unfold Im;split
 · exact hr
 · rfl
theorem Sk:G7 [32,45,62,32] [(5,[45,62])]:=IQ.a ((JX [45,62] (by decide) (by decide)).a IQ)
theorem cI:G7 [32,61,32] [(5,[61])]:=IQ.a (fun rest=>(dA 61 (.inr (.inr rfl)) (Yt (rest:=32::rest) rfl)).trans (IQ rest))
theorem Ve {s:Str} (h:SE s=true):G7 (32::(s++[32])) [(4,s)]:=IQ.a ((UI h).a rfl (by decide) IQ)
theorem QA {s:Str} (h:SE s=true):G7 (s++[32]) [(4,s)]:=(UI h).a rfl (by decide) IQ
theorem lJ {s:Str} (h:SE s=true):FA (32::s) [(4,s)]:=IQ.ss (UI h)
end Go.Ab
