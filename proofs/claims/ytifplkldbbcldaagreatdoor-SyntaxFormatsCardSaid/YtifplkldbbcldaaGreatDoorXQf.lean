/- Texts of programs in plain data. Names as tokens, in plain data. The tokens of formatted texts, in plain data: the pieces. The tokens of formatted texts, in plain data: types, expressions, programs. Conditions: none. -/
import Derived.Lib.ItoaNum
import Derived.Lib.Join
import Derived.Test.YtifplkldbbcldaaGreatDoorXQa
set_option linter.unusedSimpArgs false
set_option linter.unusedVariables false
set_option maxRecDepth 4000
set_option maxHeartbeats 8000000
open Option renaming bind_eq_bind→AT,bind_eq_some_iff→AF,bind_some→B2
open List renaming mem_cons→CW,mem_cons_self→Ag,mem_cons_of_mem→An,takeWhile_cons→F9,length_cons→AB,length_drop→Ao,nil_append→A1,append_assoc→AS,cons_append→A0,contains_eq_mem→EB,all_eq_true→A4,append_nil→AY,mem_singleton→Dy,mem_append→BY,map_cons→AG,map_nil→AH
open Bool renaming and_eq_true→AM,or_eq_false_iff→EA,not_eq_true→RH,or_false→Mt,or_eq_true→BX,not_eq_true'→CV,false_and→Ea,and_false→Dd,or_true→Oi
open Except.ok renaming injEq→HA
open Prod.mk renaming injEq→Bc
open UInt8 renaming ofNat→I9
namespace Go.Ab
mutual
def Ex.nb:Ex→Prop
 | .mk o n u ns ks al=>GJ o n u ns ks.length al=true∧Ex.nbs ks∧Al.nbs al
def Ex.nbs:List Ex→Prop
 |[]=>True
 |t::l=>t.nb∧Ex.nbs l
def Al.nb:Al→Prop
 | .mk _ _ b=>b.nb
def Al.nbs:List Al→Prop
 |[]=>True
 |t::l=>t.nb∧Al.nbs l
end
theorem Ex.IW:∀ {l:List Ex},Ex.nbs l↔∀t∈l,t.nb
 |[]=>by simp [Ex.nbs]
 |t::l=>by simp [Ex.nbs,Ex.IW (l:=l)]
theorem Al.IW:∀ {l:List Al},Al.nbs l↔∀t∈l,t.nb
 |[]=>by simp [Al.nbs]
 |t::l=>by simp [Al.nbs,Al.IW (l:=l)]
theorem Oz {α:Type} {f:Nat→α→Option Nat} {Q:α→Prop}:∀(l:List α) (q r:Nat),(∀x∈l,∀a b,f a x=some b→Q x)→l.foldlM f q=some r→∀x∈l,Q x
 |[],_,_,_,_,x,hx=>by cases hx
 |y::l,q,r,hf,h,x,hx=>by
  rw [List.foldlM_cons,AT,AF] at h
  obtain ⟨b,hb,h⟩:=h
  rcases CW.1 hx with rfl|hx
  · exact hf _ (Ag ..) q b hb
  · exact Oz l b r (fun z hz=>hf z (An _ hz)) h x hx
theorem fN:∀(d q:Nat) (e:Ex) (r:Nat),vEx d q e=some r→e.nb
 |0,q,.mk ..,r,h=>by simp [vEx] at h
 |d+1,0,.mk ..,r,h=>by cases h
 |d+1,q+1,.mk o n u ns ks al,r,h=>by
  simp only [vEx] at h
  split at h
  · rename_i hn
    rw [AF] at h
    obtain ⟨c,hc,h⟩:=h
    rw [Ex.nb,Ex.IW,Al.IW]
    refine ⟨hn,Oz ks q c (fun x _ a b hab=>fN d a x b hab) hc,Oz al c r (fun x _ a b hab=>?_) h⟩
    obtain ⟨cc,vs,bd⟩:=x
    rw [Al.nb]
    exact fN d a bd b hab
  · cases h
def cms (l:List Str):Str:=Lib.join l [44,32]
def GB (s:Str):Str:=40::(s++[41])
def Dc (l:List Str):Str:=if l=[] then [] else GB (cms l)
def FU (l:List Str):Str:=GB (cms l)
def shown (s:Str):Str:=if s=[] then [95] else s
def at0 (l:List Str) (i:Nat):Str:=l.getD i []
def tyN (k:Int) (n:Str) (ts:List Str):Str:=
 if k=1 then [105,110,116] else if k=2 then [98,111,111,108] else if k=3 then [117,110,105,116]
  else if k=7 then [97,114,114,97,121]++Dc ts else if k=8 then [114,101,102]++Dc ts
  else if k=9 then [102,110]++(FU ts.dropLast++([32,45,62,32]++ts.getLastD []))
  else n++Dc ts
mutual
def Au:TE→Str
 | .mk k n l=>tyN k n (dS l)
def dS:List TE→List Str
 |[]=>[]
 |t::l=>Au t::dS l
end
theorem NJ:∀l:List TE,dS l=l.map Au
 |[]=>rfl
 |t::l=>by rw [dS,NJ l];rfl
def Ch (u:Int):Nat:=if u=1∨u=2 then 2 else if u=3∨u=4∨u=5 then 3 else 1
def lvl:Ex→Nat
 | .mk o _ u _ _ _=>if o=7∨o=8∨o=9∨o=10∨o=11∨o=17 then 0 else if o=13 then Ch u else if o=12 then 4 else 5
def pl (d:Nat) (k:Ex) (t:Str):Str:=if lvl k < d then GB t else t
def opT (u:Int):Str:=Vh u.toNat
def prT (u:Int):Str:=if u=1 then [110,101,119] else if u=2 then [103,101,116] else if u=3 then [115,101,116] else if u=4 then [108,101,110] else if u=5 then [114,101,102] else if u=6 then [114,101,97,100] else [119,114,105,116,101]
def Hc:Ex→Bool
 | .mk o _ _ _ ks _=>o==6&&ks.isEmpty
def AA7 (ks:List Ex) (ts:List Str):Str:=match ks with
 |[]=>FU ts.tail
 |k::_=>(if Hc k then GB (at0 ts 0) else pl 4 k (at0 ts 0))++FU ts.tail
def sW (u:Int) (ks:List Ex) (ts:List Str):Str:=match ks with
 |[a,b]=>pl (if Ch u=1 then 2 else Ch u) a (at0 ts 0)++(32::(opT u++(32::pl (if Ch u=1 then 2 else Ch u+1) b (at0 ts 1))))
 |_=>[]
def G9 (o:Int) (n:Str) (u:Int) (ns:List Str) (ks:List Ex) (ts:List Str) (as':List Str):Str:=
 if o=7 then [108,101,116,32]++(shown n++([32,61,32]++(at0 ts 0++([32,105,110,32]++at0 ts 1))))
                                                                   else if o=8 then [108,101,116,32]++(Dc (ns.map shown)++([32,61,32]++(at0 ts 0++([32,105,110,32]++at0 ts 1))))
                                                                   else if o=9 then [105,102,32]++(at0 ts 0++([32,116,104,101,110,32]++(at0 ts 1++([32,101,108,115,101,32]++at0 ts 2))))
                                                                   else if o=10 then [109,97,116,99,104,32]++(at0 ts 0++([32,119,105,116,104,32]++(Lib.join as' [32,124,32]++[32,101,110,100])))
                                                                   else if o=11 then [102,110]++(FU ns++([32,45,62,32]++at0 ts 0))
                                                                   else if o=17 then [116,114,121,32]++(at0 ts 0++([32,99,97,116,99,104,32]++(shown n++([32,45,62,32]++(at0 ts 1++[32,101,110,100])))))
                                                                   else if o=13 then sW u ks ts
                                                                   else if o=12 then AA7 ks ts
                                                                   else if o=1 then [40,41]
                                                                   else if o=2 then (if u=1 then [116,114,117,101] else [102,97,108,115,101])
                                                                   else if o=3 then Lib.itoa u
                                                                   else if o=5 then FU ts
                                                                   else if o=14 then prT u++FU ts
                                                                   else if o=16 then [114,97,105,115,101]++FU ts
                                                                   else if o=15 then [116,105,99,107]++GB (Lib.itoa u)
                                                                   else n++Dc ts
def alT (c:Str) (vs:List Str) (b:Str):Str:=c++(Dc (vs.map shown)++([32,45,62,32]++b))
mutual
def Af:Ex→Str
 | .mk o n u ns ks al=>G9 o n u ns ks (Wu ks) (KF al)
def Wu:List Ex→List Str
 |[]=>[]
 |t::l=>Af t::Wu l
def E5:Al→Str
 | .mk c vs b=>alT c vs (Af b)
def KF:List Al→List Str
 |[]=>[]
 |t::l=>E5 t::KF l
end
theorem Ij:∀l:List Ex,Wu l=l.map Af
 |[]=>rfl
 |t::l=>by rw [Wu,Ij l];rfl
theorem Ox:∀l:List Al,KF l=l.map E5
 |[]=>rfl
 |t::l=>by rw [KF,Ox l];rfl
def fmtC (c:CE):Str:=c.name++Dc (c.args.map Au)
def M9 (d:DE):Str:=[100,97,116,97,32]++(d.name++(Dc d.vars++([32,61,32]++(Lib.join (d.cons.map fmtC) [32,124,32]++[59,10]))))
def Oy (f:FE):Str:=[102,117,110,32]++(f.name++(FU f.params++([32,61,32]++(Af f.body++[59,10]))))
def V1 (p:Pg):Str:=(p.data.map M9).flatten++(p.SI.map Oy).flatten
end Go.Ab
namespace Go.Ab
theorem sV {a b:Int} (h:a≠b):(a==b)=false:=by simpa using h
def AB8 (s:Str):Prop:=∃b r,s=b::r∧Mg b.toNat=true∧(∀x∈s,CT GZ x=true)∧s.length≤24∧Sc s=false
theorem takeWhile_eq {α:Type} {p:α→Bool}:∀ {l:List α},l.takeWhile p=l→∀x∈l,p x=true
 |[],_,x,hx=>by cases hx
 |y::l,h,x,hx=>by
  rw [F9] at h
  split at h
  · rename_i hy
    rcases CW.1 hx with rfl|hx
    · exact hy
    · exact takeWhile_eq (by simpa using h) x hx
  · cases h
theorem WW {b:UInt8} (h:Mg b.toNat=true):U1 b.toNat=false∧(b==35)=false∧Kk b.toNat=false:=by
 simp only [Mg,AM,decide_eq_true_eq] at h
 refine ⟨?_,?_,?_⟩
 · simp only [U1,EA]
   refine ⟨⟨⟨?_,?_⟩,?_⟩,?_⟩<;>(apply sV;omega)
 · cases hb:(b==35) with
   |false=>rfl
   |true=>
    rw [beq_iff_eq] at hb;subst hb
    have:=h.1
    exact absurd this (by decide)
 · simp only [Kk,Bool.and_eq_false_iff,decide_eq_false_iff_not];omega
theorem Kg:∀(n:Nat) (rest:Str) (i:Nat) (acc:List Tok),(D9 n rest i acc).2.2=0→(D9 n rest i acc).1=[]∨∃tl,(D9 n rest i acc).1=acc++tl∧∀t∈tl,t.text.length≤rest.length
 |0,rest,i,acc,_=>.inl rfl
 |n+1,[],i,acc,_=>.inr ⟨[⟨6,[],i⟩],rfl,fun t ht=>by simp at ht;simp [ht]⟩
 |n+1,b::r,i,acc,h=>by
  rw [D9] at h ⊢
  split at h
  · rename_i hb
    rw [if_pos hb]
    rcases Kg n r (i+1) acc h with h|⟨tl,h1,h2⟩
    · exact .inl h
    · exact .inr ⟨tl,h1,fun t ht=>by have:=h2 t ht;simp only [AB];omega⟩
  · rename_i hb
    rw [if_neg hb]
    split at h
    · rename_i hc
      rw [if_pos hc]
      rcases Kg n _ _ acc h with h|⟨tl,h1,h2⟩
      · exact .inl h
      · exact .inr ⟨tl,h1,fun t ht=>by have:=h2 t ht;rw [Ao] at this;omega⟩
    · rename_i hc
      rw [if_neg hc]
      cases hs:De (b::r) with
      |error e=>
       rw [hs] at h
       simp only at h
       rcases Pd hs with rfl|rfl<;>cases h
      |ok x=>
       obtain ⟨k,t⟩:=x
       rw [hs] at h
       simp only at h ⊢
       rcases Kg n _ _ _ h with h|⟨tl,h1,h2⟩
       · exact .inl h
       · refine .inr ⟨⟨k,t,i⟩::tl,by rw [h1];simp,fun u hu=>?_⟩
         rcases CW.1 hu with rfl|hu
         · exact (Pe hs).2
         · have:=h2 u hu;rw [Ao] at this;omega
theorem ZE {s:Str} (h:DQ s=true):AB8 s:=by
 rw [DQ,GY] at h
 simp only [AM,beq_iff_eq] at h
 obtain ⟨h0,h1,h2⟩:=h
 rw [BN] at h0 h1 h2
 split at h0
 · cases h0
 · rename_i hle
   rw [if_neg hle] at h1 h2
   match s,h0,h1,h2 with
   |[],_,h1,_=>simp [D9] at h1
   |b::r,h0,h1,h2=>
    rw [show (b::r).length+1=(r.length+1)+1 from rfl] at h0 h1 h2
    rw [D9] at h0 h1 h2
    have hsm:∀(n:Nat) (rest:Str) (i:Nat),rest.length < (b::r).length→(D9 n rest i []).2.2=0→(D9 n rest i []).1.length=2→(match (D9 n rest i []).1 with|[]=>false|a::_=>decide (a.kind=1)&&decide (a.text=b::r))=true→False:=by
     intro n rest i hlt g0 g1 g2
     rcases Kg n rest i [] g0 with h|⟨tl,h,hm⟩
     · rw [h] at g1;cases g1
     · rw [h,A1] at g1 g2
       cases tl with
       |nil=>cases g1
       |cons a tl=>
        simp only [AM,decide_eq_true_eq] at g2
        have:=hm a (Ag ..)
        rw [g2.2] at this
        omega
    have hcv:∀(l:List Tok),(match l with|[]=>false|a::_=>a.kind==1&&a.text==b::r)=true→(match l with|[]=>false|a::_=>decide (a.kind=1)&&decide (a.text=b::r))=true:=by
     intro l hl
     cases l with
     |nil=>cases hl
     |cons a l=>simpa using hl
    split at h0
    · rename_i hb
      rw [if_pos hb] at h1 h2
      exact (hsm _ _ _ (by simp) h0 h1 (hcv _ h2)).elim
    · rename_i hb
      rw [if_neg hb] at h1 h2
      split at h0
      · rename_i hc
        rw [if_pos hc] at h1 h2
        refine (hsm _ _ _ ?_ h0 h1 (hcv _ h2)).elim
        rw [beq_iff_eq] at hc
        subst hc
        have:1≤cmt (35::r):=by simp [cmt]
        rw [Ao];simp only [AB];omega
      · rename_i hc
        rw [if_neg hc] at h1 h2
        cases hs:De (b::r) with
        |error e=>
         rw [hs] at h0
         rcases Pd hs with rfl|rfl<;>cases h0
        |ok x=>
         obtain ⟨k,t⟩:=x
         rw [hs] at h0 h1 h2
         rcases Kg _ _ _ _ h0 with h|⟨tl,h,hm⟩
         · rw [h] at h1;cases h1
         · rw [h] at h2
           replace h2:(k==1&&t==b::r)=true:=h2
           rw [AM,beq_iff_eq,beq_iff_eq] at h2
           obtain ⟨rfl,rfl⟩:=h2
           rw [De] at hs
           split at hs
           · rename_i hlu
             split at hs
             · cases hs
             · rename_i hlen
               split at hs
               · cases hs
               · rename_i hup
                 split at hs
                 · cases hs
                 · rename_i hkey
                   simp only [HA,Bc,true_and] at hs
                   rw [hs] at hlen hkey
                   refine ⟨b,r,rfl,?_,takeWhile_eq hs,by simpa using hlen,by simpa using hkey⟩
                   rw [RH] at hup
                   rw [hup,Mt] at hlu
                   exact hlu
           · split at hs
             · split at hs
               · cases hs
               · split at hs<;>cases hs
             · split at hs<;>cases hs
end Go.Ab
namespace Go.Ab
abbrev KT:=Int×Str
def OO:Str→Bool
 |[]=>true
 |b::_=>[10,32,40,41,44,59].contains b
def Ol (s:Str) (ks:List KT) (rest:Str):Prop:=∀n i acc,(s++rest).length < n→∃n' i' acc',strip acc'=strip acc++ks∧rest.length < n'∧D9 n (s++rest) i acc=D9 n' rest i' acc'
def FM (s:Str) (ks:List KT):Prop:=∀rest,OO rest=true→Ol s ks rest
def Gn (s:Str) (ks:List KT):Prop:=∀rest,Ol s ks rest
theorem Ol.trans {s1 s2:Str} {k1 k2:List KT} {rest:Str} (h1:Ol s1 k1 (s2++rest)) (h2:Ol s2 k2 rest):Ol (s1++s2) (k1++k2) rest:=fun n i acc hn=>by
 rw [AS] at hn ⊢
 obtain ⟨n1,i1,a1,e1,l1,g1⟩:=h1 n i acc hn
 obtain ⟨n2,i2,a2,e2,l2,g2⟩:=h2 n1 i1 a1 l1
 exact ⟨n2,i2,a2,by rw [e2,e1,AS],l2,by rw [g1,g2]⟩
theorem Ol.nil (rest:Str):Ol [] [] rest:=fun n i acc hn=>⟨n,i,acc,by simp,hn,rfl⟩
theorem Gn.s {s:Str} {ks:List KT} (h:Gn s ks):FM s ks:=fun r _=>h r
theorem Gn.nil:Gn [] []:=Ol.nil
theorem Gn.a {s1 s2:Str} {k1 k2:List KT} (h1:Gn s1 k1) (h2:Gn s2 k2):Gn (s1++s2) (k1++k2):=fun r=>(h1 _).trans (h2 r)
theorem Gn.ss {s1 s2:Str} {k1 k2:List KT} (h1:Gn s1 k1) (h2:FM s2 k2):FM (s1++s2) (k1++k2):=fun r hr=>(h1 _).trans (h2 r hr)
theorem Zj {s r:Str} (h:OO s=true) (hn:s≠[]):OO (s++r)=true:=by
 cases s with
 |nil=>exact absurd rfl hn
 |cons b l=>exact h
theorem FM.a {s1 s2:Str} {k1 k2:List KT} (h1:FM s1 k1) (hs:OO s2=true) (hn:s2≠[]) (h2:Gn s2 k2):Gn (s1++s2) (k1++k2):=fun r=>(h1 _ (Zj hs hn)).trans (h2 r)
theorem FM.ss {s1 s2:Str} {k1 k2:List KT} (h1:FM s1 k1) (hs:OO s2=true) (h2:FM s2 k2):FM (s1++s2) (k1++k2):=fun r hr=>by
 by_cases hn:s2=[]
 · subst hn;exact (h1 _ hr).trans (h2 r hr)
 · exact (h1 _ (Zj hs hn)).trans (h2 r hr)
theorem eJ {s rest:Str} {k:Int} (hs:De (s++rest)= .ok (k,s)) (hb:∀b l,s=b::l→U1 b.toNat=false∧(b==35)=false):Ol s [(k,s)] rest:=fun n i acc hn=>by
 have hl:=(Pe hs).1
 cases s with
 |nil=>simp at hl
 |cons b l=>
  obtain ⟨h1,h2⟩:=hb b l rfl
  cases n with
  |zero=>omega
  |succ n=>
   refine ⟨n,i+(b::l).length,acc++[⟨k,b::l,i⟩],by simp [strip],by simp at hn ⊢;omega,?_⟩
   rw [A0] at hs ⊢
   rw [D9,if_neg (by rw [h1];decide),if_neg (by rw [h2];decide),hs]
   simp only
   rw [← A0,List.drop_left]
theorem cJ {b:UInt8} (hb:U1 b.toNat=true):Gn [b] []:=fun rest n i acc hn=>by
 cases n with
 |zero=>omega
 |succ n=>exact ⟨n,i+1,acc,by simp,by simp at hn;omega,by rw [A0,A1,D9,if_pos hb]⟩
theorem I4:Gn [32] []:=cJ (by decide)
theorem AB2:Gn [10] []:=cJ (by decide)
theorem fL {p:UInt8→Bool} {s rest:Str} (h:∀x∈s,p x=true) (hr:∀b l,rest=b::l→p b=false):(s++rest).takeWhile p=s:=by
 induction s with
 |nil=>
  cases rest with
  |nil=>rfl
  |cons b l=>rw [A1,F9,hr b l rfl];rfl
 |cons x s ih=>rw [A0,F9,h x (Ag ..),if_pos rfl,ih (fun y hy=>h y (An _ hy))]
theorem wJ {rest:Str} (h:OO rest=true):∀b l,rest=b::l→CT GZ b=false:=by
 rintro b l rfl
 have:∀c∈([10,32,40,41,44,59]:Str),CT GZ c=false:=by decide
 exact this b (by simpa [OO,EB] using h)
theorem wI {rest:Str} (h:OO rest=true):∀b l,rest=b::l→CT Er b=false:=by
 rintro b l rfl
 have:∀c∈([10,32,40,41,44,59]:Str),CT Er c=false:=by decide
 exact this b (by simpa [OO,EB] using h)
theorem ZC {b:UInt8} {r:Str} (hlu:(Mg b.toNat||Kk b.toNat)=true) (hw:∀x∈b::r,CT GZ x=true) (hl:(b::r).length≤24):FM (b::r) [(if Kk b.toNat then 2 else if Sc (b::r) then 4 else 1,b::r)]:=fun rest hr=>by
 refine eJ ?_ (fun c l e=>?_)
 · have ht:=fL hw (wJ hr)
   rw [A0] at ht ⊢
   rw [De,if_pos hlu,ht,if_neg (by simp only [decide_eq_true_eq];omega)]
   split
   · rfl
   · split<;>rfl
 · cases e
   simp only [Mg,Kk,BX,AM,decide_eq_true_eq] at hlu
   refine ⟨?_,?_⟩
   · simp only [U1,EA]
     refine ⟨⟨⟨?_,?_⟩,?_⟩,?_⟩<;>(apply sV;omega)
   · cases hb:(b==35) with
     |false=>rfl
     |true=>
      rw [beq_iff_eq] at hb;subst hb
      exfalso
      rcases hlu with h|h
      · have:=h.1;revert this;decide
      · have:=h.1;revert this;decide
theorem NV {s:Str} (h:DQ s=true):FM s [(1,s)]:=by
 obtain ⟨b,r,rfl,h1,h2,h3,h4⟩:=ZE h
 have:=ZC (b:=b) (r:=r) (by rw [h1];rfl) h2 h3
 have hu:Kk b.toNat=false:=(WW h1).2.2
 rw [hu,h4] at this
 exact this
theorem yF {s:Str} (h:Sc s=true) (b:UInt8) (r:Str) (e:s=b::r) (hl:Mg b.toNat=true) (hw:∀x∈b::r,CT GZ x=true) (hn:(b::r).length≤24):FM s [(4,s)]:=by
 subst e
 have:=ZC (b:=b) (r:=r) (by rw [hl];rfl) hw hn
 have hu:Kk b.toNat=false:=(WW hl).2.2
 rw [hu,h] at this
 exact this
theorem Ug {s:Str} (h:Sc s=true):FM s [(4,s)]:=by
 have ha:FT.all (fun w=>match w with|[]=>false|b::r=>Mg b.toNat&&(b::r).all (CT GZ)&&decide ((b::r).length≤24))=true:=by decide
 have hm:s∈FT:=by
  simp only [Sc,List.any_eq_true,beq_iff_eq] at h
  obtain ⟨x,hx,rfl⟩:=h
  exact hx
 have:=A4.1 ha s hm
 match s,this,h with
 |b::r,this,h=>
  simp only [AM,decide_eq_true_eq,A4] at this
  exact yF h b r rfl this.1.1 this.1.2 this.2
theorem iF {s rest:Str} (h0:s∈UT) (h1:∀b l,s=b::l→(Mg b.toNat||Kk b.toNat)=false∧Er b.toNat=false∧U1 b.toNat=false∧(b==35)=false) (h2:(s++rest).take (GK (s++rest))=s):Ol s [(5,s)] rest:=by
 cases s with
 |nil=>exact absurd h0 (by decide)
 |cons b l=>
  obtain ⟨a1,a2,a3,a4⟩:=h1 b l rfl
  refine eJ ?_ (fun c l' e=>by cases e;exact ⟨a3,a4⟩)
  rw [A0] at h2 ⊢
  rw [De,if_neg (by rw [a1];decide),if_neg (by rw [a2];decide),if_neg (by rw [h2];simp),h2]
theorem Je (s:Str) (h0:s∈UT) (h:s≠[45]∧s≠[60]∧s≠[61]):Gn s [(5,s)]:=fun rest=>by
 have hall:∀s∈UT,s≠[45]∧s≠[60]∧s≠[61]→(match s with|[]=>false|b::_=>!(Mg b.toNat||Kk b.toNat)&& !Er b.toNat&& !U1 b.toNat&& !(b==35))=true∧((∃b,s=[b]∧bD b=1∧(b==45)=false∧(b==60)=false∧(b==61)=false)∨∃b c,s=[b,c]∧bE b c=true):=by
  intro s hs hn
  simp only [UT,CW,List.not_mem_nil,or_false] at hs
  rcases hs with rfl|rfl|rfl|rfl|rfl|rfl|rfl|rfl|rfl|rfl|rfl|rfl|rfl|rfl|rfl|rfl<;>first
   |exact ⟨by decide,.inr ⟨_,_,rfl,by decide⟩⟩
   |exact ⟨by decide,.inl ⟨_,rfl,by decide,by decide,by decide,by decide⟩⟩
   |exact absurd rfl hn.1
   |exact absurd rfl hn.2.1
   |exact absurd rfl hn.2.2
 obtain ⟨f1,f2⟩:=hall s h0 h
 refine iF h0 (fun b l e=>?_) ?_
 · subst e
   simp only [AM,CV] at f1
   exact ⟨f1.1.1.1,f1.1.1.2,f1.1.2,f1.2⟩
 · rcases f2 with ⟨b,rfl,g1,g2,g3,g4⟩|⟨b,c,rfl,g⟩
   · cases rest with
     |nil=>rw [AY,GK,g1];rfl
     |cons c l=>
      have:bE b c=false:=by
       simp only [bE,EA,List.cons_beq_cons,g2,g3,g4,Ea,and_self]
      rw [A0,A1,GK,this,if_neg (by decide),g1];rfl
   · rw [A0,A0,A1,GK,if_pos g];rfl
theorem fF (b:UInt8) (hb:b=45∨b=60∨b=61) {rest:Str} (hr:∀c l,rest=c::l→(c==61)=false∧(c==62)=false):Ol [b] [(5,[b])] rest:=by
 refine iF (by rcases hb with rfl|rfl|rfl<;>decide) (fun c l e=>?_) ?_
 · cases e
   rcases hb with rfl|rfl|rfl<;>decide
 · cases rest with
   |nil=>rcases hb with rfl|rfl|rfl<;>rfl
   |cons c l=>
    obtain ⟨g1,g2⟩:=hr c l rfl
    have:bE b c=false:=by
     simp only [bE,EA,List.cons_beq_cons,g1,g2,Dd,Ea,and_self]
    rw [A0,A1,GK,this,if_neg (by decide)]
    rcases hb with rfl|rfl|rfl<;>rfl
theorem Zk {rest:Str} (h:OO rest=true):∀c l,rest=c::l→(c==61)=false∧(c==62)=false:=by
 rintro b l rfl
 have:∀c∈([10,32,40,41,44,59]:Str),(c==61)=false∧(c==62)=false:=by decide
 exact this b (by simpa [OO,EB] using h)
end Go.Ab
namespace Go.Ab
theorem u8n {n:Nat} (h:n < 256):(I9 n).toNat=n:=by simp [Nat.mod_eq_of_lt h]
theorem kQ:∀(n:Nat),∀x∈Lib.decDigits n,CT Er x=true:=by
 intro n
 induction n using Nat.strongRecOn with
 |_ n ih=>
 intro x hx
 rw [Lib.decDigits] at hx
 have hd:∀m,m < 10→CT Er (I9 (48+m))=true:=fun m hm=>by
  simp only [CT,Er,u8n (show 48+m < 256 by omega),AM,decide_eq_true_eq];omega
 split at hx
 · rename_i h
   rw [Dy] at hx;rw [hx];exact hd n h
 · rename_i h
   rcases BY.1 hx with hx|hx
   · exact ih (n / 10) (by omega) x hx
   · rw [Dy] at hx;rw [hx];exact hd _ (by omega)
theorem dC:∀(s t:Str) (v:Int),FL (s++t) v=(FL s v).bind (FL t)
 |[],t,v=>rfl
 |b::s,t,v=>by
  rw [A0,FL,FL]
  split
  · rfl
  · exact dC s t _
theorem tM:∀(n:Nat),n≤1000000→FL (Lib.decDigits n) 0=some (n:Int):=by
 intro n
 induction n using Nat.strongRecOn with
 |_ n ih=>
 intro hn
 have hw:∀m,m < 10→IntKind.u8.wrap (((I9 (48+m)).toNat:Int) - 48)=m:=fun m hm=>by
  rw [u8n (by omega)]
  have:IntKind.u8.wrap (((48+m:Nat):Int) - 48)=(((48+m:Nat):Int) - 48) % 256:=rfl
  rw [this];omega
 rw [Lib.decDigits]
 split
 · rename_i h
   rw [FL,hw n h,if_neg (by omega),FL]
   congr 1;omega
 · rename_i h
   rw [dC,ih (n / 10) (by omega) (by omega),B2,FL,hw _ (by omega),if_neg (by omega),FL]
   congr 1;omega
theorem nM:∀(n:Nat),1≤n→∃b l,Lib.decDigits n=b::l∧(b==48)=false:=by
 intro n
 induction n using Nat.strongRecOn with
 |_ n ih=>
 intro hn
 rw [Lib.decDigits]
 split
 · rename_i h
   refine ⟨_,[],rfl,?_⟩
   cases hb:(I9 (48+n)==48) with
   |false=>rfl
   |true=>
    rw [beq_iff_eq] at hb
    have:=congrArg UInt8.toNat hb
    rw [u8n (by omega)] at this
    have h2:(48:UInt8).toNat=48:=rfl
    omega
 · rename_i h
   obtain ⟨b,l,e,hb⟩:=ih (n / 10) (by omega) (by omega)
   exact ⟨b,l++[_],by rw [e];rfl,hb⟩
theorem yX {n:Nat} (h:n≤1000000):R3 (Lib.decDigits n)=n:=by rw [R3,tM n h];rfl
theorem oD {n:Nat} (h:n≤1000000):FM (Lib.decDigits n) [(3,Lib.decDigits n)]:=fun rest hr=>by
 have ha:=kQ n
 have hv:=tM n h
 have hh:∃b l,Lib.decDigits n=b::l∧(b==48&&decide ((b::l).length>1))=false:=by
  by_cases h0:n=0
  · subst h0;exact ⟨48,[],by rw [Lib.decDigits];rfl,rfl⟩
  · obtain ⟨b,l,e,hb⟩:=nM n (by omega)
    exact ⟨b,l,e,by rw [hb];rfl⟩
 obtain ⟨b,l,e,h48⟩:=hh
 rw [e] at ha hv ⊢
 have hd:=ha b (Ag ..)
 simp only [CT] at hd
 have hdn:=hd
 simp only [Er,AM,decide_eq_true_eq] at hdn
 have ht:=fL ha (wI hr)
 refine eJ ?_ (fun c l' e'=>?_)
 · rw [A0] at ht ⊢
   have hlu:¬(Mg b.toNat||Kk b.toNat)=true:=by
    simp only [Mg,Kk,BX,AM,decide_eq_true_eq];omega
   rw [De,if_neg hlu,if_pos hd,ht,h48,if_neg (by decide),hv];rfl
 · cases e'
   refine ⟨?_,?_⟩
   · simp only [U1,EA]
     refine ⟨⟨⟨?_,?_⟩,?_⟩,?_⟩<;>(apply sV;omega)
   · cases hb:(b==35) with
     |false=>rfl
     |true=>
      rw [beq_iff_eq] at hb;subst hb
      exact absurd hdn.1 (by decide)
def UU (u:Int):List KT:=if u < 0 then [(5,[45]),(3,Lib.decDigits u.natAbs)] else [(3,Lib.decDigits u.toNat)]
theorem iD {u:Int} (h1: -1000000≤u) (h2:u≤1000000):FM (Lib.itoa u) (UU u):=by
 unfold Lib.itoa UU
 split
 · rename_i h
   intro rest hr
   refine Ol.trans (s1:=[45]) (k1:=[(5,[45])]) (fF 45 (.inl rfl) ?_) (oD (by omega) rest hr)
   intro c l e
   have hall:∀x:UInt8,CT Er x=true→(x==61)=false∧(x==62)=false:=fun x hx=>by
    simp only [CT,Er,AM,decide_eq_true_eq] at hx
    constructor
    · cases hb:(x==61) with
      |false=>rfl
      |true=>rw [beq_iff_eq] at hb;subst hb;exact absurd hx.2 (by decide)
    · cases hb:(x==62) with
      |false=>rfl
      |true=>rw [beq_iff_eq] at hb;subst hb;exact absurd hx.2 (by decide)
   obtain ⟨b,l2,e2⟩:∃b l2,Lib.decDigits u.natAbs=b::l2:=by
    obtain ⟨b,l2,e2,_⟩:=nM u.natAbs (by omega)
    exact ⟨b,l2,e2⟩
   have hb:=hall b (kQ u.natAbs b (by rw [e2];exact Ag ..))
   rw [e2] at e
   cases e
   exact hb
 · exact oD (by omega)
theorem Wg {s:Str} (h:upperB s=true):∃b r,s=b::r∧Kk b.toNat=true∧(∀x∈b::r,CT GZ x=true)∧(b::r).length≤24:=by
 rw [upperB,GY] at h
 simp only [AM,beq_iff_eq] at h
 obtain ⟨h0,h1,h2⟩:=h
 rw [BN] at h0 h1 h2
 split at h0
 · cases h0
 · rename_i hle
   rw [if_neg hle] at h1 h2
   match s,h0,h1,h2 with
   |[],_,h1,_=>simp [D9] at h1
   |b::r,h0,h1,h2=>
    rw [show (b::r).length+1=(r.length+1)+1 from rfl] at h0 h1 h2
    rw [D9] at h0 h1 h2
    have hsm:∀(n:Nat) (rest:Str) (i:Nat),rest.length < (b::r).length→(D9 n rest i []).2.2=0→(D9 n rest i []).1.length=2→(match (D9 n rest i []).1 with|[]=>false|a::_=>a.kind==2&&a.text==b::r)=true→False:=by
     intro n rest i hlt g0 g1 g2
     rcases Kg n rest i [] g0 with h|⟨tl,h,hm⟩
     · rw [h] at g1;cases g1
     · rw [h,A1] at g1 g2
       cases tl with
       |nil=>cases g1
       |cons a tl=>
        simp only [AM,beq_iff_eq] at g2
        have:=hm a (Ag ..)
        rw [g2.2] at this
        omega
    split at h0
    · rename_i hb
      rw [if_pos hb] at h1 h2
      exact (hsm _ _ _ (by simp) h0 h1 h2).elim
    · rename_i hb
      rw [if_neg hb] at h1 h2
      split at h0
      · rename_i hc
        rw [if_pos hc] at h1 h2
        refine (hsm _ _ _ ?_ h0 h1 h2).elim
        rw [beq_iff_eq] at hc
        subst hc
        have:1≤cmt (35::r):=by simp [cmt]
        rw [Ao];simp only [AB];omega
      · rename_i hc
        rw [if_neg hc] at h1 h2
        cases hs:De (b::r) with
        |error e=>
         rw [hs] at h0
         rcases Pd hs with rfl|rfl<;>cases h0
        |ok x=>
         obtain ⟨k,t⟩:=x
         rw [hs] at h0 h1 h2
         rcases Kg _ _ _ _ h0 with h|⟨tl,h,hm⟩
         · rw [h] at h1;cases h1
         · rw [h] at h2
           replace h2:(k==2&&t==b::r)=true:=h2
           rw [AM,beq_iff_eq,beq_iff_eq] at h2
           obtain ⟨rfl,rfl⟩:=h2
           rw [De] at hs
           split at hs
           · split at hs
             · cases hs
             · rename_i hlen
               split at hs
               · rename_i hup
                 simp only [HA,Bc,true_and] at hs
                 rw [hs] at hlen
                 exact ⟨b,r,rfl,hup,takeWhile_eq hs,by simpa using hlen⟩
               · split at hs<;>cases hs
           · split at hs
             · split at hs
               · cases hs
               · split at hs<;>cases hs
             · split at hs<;>cases hs
theorem PS {s:Str} (h:upperB s=true):FM s [(2,s)]:=by
 obtain ⟨b,r,rfl,h1,h2,h3⟩:=Wg h
 have:=ZC (b:=b) (r:=r) (by rw [h1,Oi]) h2 h3
 rw [h1,if_pos rfl] at this
 exact this
def shK (s:Str):List KT:=if s=[] then [(5,[95])] else [(1,s)]
theorem WV {s:Str} (h:G3 s=true):FM (shown s) (shK s):=by
 unfold shown shK
 split
 · exact (Je [95] (by decide) (by decide)).s
 · rename_i hs
   simp only [G3,BX,beq_iff_eq] at h
   rcases h with h|h
   · exact absurd h hs
   · exact NV h
def cmK (l:List (List KT)):List KT:=[(5,[44])].intercalate l
def IH (k:List KT):List KT:=(5,[40])::(k++[(5,[41])])
def Vi (l:List (List KT)):List KT:=if l=[] then [] else IH (cmK l)
def Lx (l:List (List KT)):List KT:=IH (cmK l)
theorem nU {α:Type} (sep x:List α):sep.intercalate [x]=x:=by simp [List.intercalate]
theorem eB {α:Type} (sep x y:List α) (l:List (List α)):sep.intercalate (x::y::l)=x++(sep++sep.intercalate (y::l)):=by
 simp [List.intercalate,List.intersperse]
theorem Vc {α:Type} {sep:Str} {ks:List KT} (hs:Gn sep ks) (hst:OO sep=true) (hne:sep≠[]) (f:α→Str) (g:α→List KT):∀l:List α,(∀x∈l,FM (f x) (g x))→FM (Lib.join (l.map f) sep) (ks.intercalate (l.map g))
 |[],_=>Gn.nil.s
 |[x],h=>by
  simp only [Lib.join,AG,AH,nU]
  exact h x (Ag ..)
 |x::y::l,h=>by
  have ih:=Vc hs hst hne f g (y::l) (fun z hz=>h z (An _ hz))
  simp only [Lib.join,AG,eB] at ih ⊢
  exact (h x (Ag ..)).ss (Zj hst hne) (hs.ss ih)
theorem qZ:Gn [44,32] [(5,[44])]:=(Je [44] (by decide) (by decide)).a I4
theorem uL:Gn [40] [(5,[40])]:=Je _ (by decide) (by decide)
theorem uP:Gn [41] [(5,[41])]:=Je _ (by decide) (by decide)
theorem Ve {s:Str} {k:List KT} (h:FM s k):Gn (GB s) (IH k):=uL.a (h.a rfl (by decide) uP)
theorem oA {α:Type} (f:α→Str) (g:α→List KT) (l:List α) (h:∀x∈l,FM (f x) (g x)):FM (cms (l.map f)) (cmK (l.map g)):=Vc qZ rfl (by decide) f g l h
theorem TV {α:Type} (f:α→Str) (g:α→List KT) (l:List α) (h:∀x∈l,FM (f x) (g x)):Gn (Dc (l.map f)) (Vi (l.map g)):=by
 unfold Dc Vi
 cases l with
 |nil=>exact Gn.nil
 |cons x l=>exact Ve (oA f g (x::l) h)
theorem Vd {α:Type} (f:α→Str) (g:α→List KT) (l:List α) (h:∀x∈l,FM (f x) (g x)):Gn (FU (l.map f)) (Lx (l.map g)):=Ve (oA f g l h)
theorem N6 (l:List Str) {r:Str} (hr:OO r=true):OO (Dc l++r)=true:=by
 unfold Dc;split
 · exact hr
 · rfl
theorem TU:Gn [32,45,62,32] [(5,[45,62])]:=I4.a ((Je [45,62] (by decide) (by decide)).a I4)
theorem eI:Gn [32,61,32] [(5,[61])]:=I4.a (fun rest=>(fF 61 (.inr (.inr rfl)) (Zk (rest:=32::rest) rfl)).trans (I4 rest))
theorem WU {s:Str} (h:Sc s=true):Gn (32::(s++[32])) [(4,s)]:=I4.a ((Ug h).a rfl (by decide) I4)
theorem Q0 {s:Str} (h:Sc s=true):Gn (s++[32]) [(4,s)]:=(Ug h).a rfl (by decide) I4
theorem oB {s:Str} (h:Sc s=true):FM (32::s) [(4,s)]:=I4.ss (Ug h)
end Go.Ab
