/- Texts of programs in plain data. Names as tokens, in plain data. The tokens of formatted texts, in plain data: the pieces. The tokens of formatted texts, in plain data: types, expressions, programs. Conditions: none. -/
import Derived.Lib.ItoaNum
import Derived.Lib.Join
import Derived.Test.YtifplkldbbcldaaGreatDoorXQa
set_option linter.unusedSimpArgs false
set_option linter.unusedVariables false
set_option maxRecDepth 4000
set_option maxHeartbeats 8000000
open Option renaming bind_eq_bind→AU,bind_eq_some_iff→AD,bind_some→BY
open List renaming mem_cons→CT,mem_cons_self→Ah,mem_cons_of_mem→Am,takeWhile_cons→F5,length_cons→AB,length_drop→An,nil_append→A3,append_assoc→AT,cons_append→A0,contains_eq_mem→Dx,all_eq_true→A7,append_nil→A1,mem_singleton→Dv,mem_append→BW,map_cons→AF,map_nil→AI
open Bool renaming and_eq_true→AN,or_eq_false_iff→Dw,not_eq_true→Qw,or_false→Mm,or_eq_true→BV,not_eq_true'→CS,false_and→E5,and_false→D9,or_true→Od
open Except.ok renaming injEq→Gw
open Prod.mk renaming injEq→B7
open UInt8 renaming ofNat→I2
namespace Go.Ab
mutual
def Ex.nb:Ex→Prop
 | .mk o n u ns ks al=>Fi o n u ns ks.length al=true∧Ex.nbs ks∧Al.nbs al
def Ex.nbs:List Ex→Prop
 |[]=>True
 |t::l=>t.nb∧Ex.nbs l
def Al.nb:Al→Prop
 | .mk _ _ b=>b.nb
def Al.nbs:List Al→Prop
 |[]=>True
 |t::l=>t.nb∧Al.nbs l
end
theorem Ex.IP:∀ {l:List Ex},Ex.nbs l↔∀t∈l,t.nb
 |[]=>by simp [Ex.nbs]
 |t::l=>by simp [Ex.nbs,Ex.IP (l:=l)]
theorem Al.IP:∀ {l:List Al},Al.nbs l↔∀t∈l,t.nb
 |[]=>by simp [Al.nbs]
 |t::l=>by simp [Al.nbs,Al.IP (l:=l)]
theorem Oq {α:Type} {f:Nat→α→Option Nat} {Q:α→Prop}:∀(l:List α) (q r:Nat),(∀x∈l,∀a b,f a x=some b→Q x)→l.foldlM f q=some r→∀x∈l,Q x
 |[],_,_,_,_,x,hx=>by cases hx
 |y::l,q,r,hf,h,x,hx=>by
  rw [List.foldlM_cons,AU,AD] at h
  obtain ⟨b,hb,h⟩:=h
  rcases CT.1 hx with rfl|hx
  · exact hf _ (Ah ..) q b hb
  · exact Oq l b r (fun z hz=>hf z (Am _ hz)) h x hx
theorem e5:∀(d q:Nat) (e:Ex) (r:Nat),vEx d q e=some r→e.nb
 |0,q,.mk ..,r,h=>by simp [vEx] at h
 |d+1,0,.mk ..,r,h=>by cases h
 |d+1,q+1,.mk o n u ns ks al,r,h=>by
  simp only [vEx] at h
  split at h
  · rename_i hn
    rw [AD] at h
    obtain ⟨c,hc,h⟩:=h
    rw [Ex.nb,Ex.IP,Al.IP]
    refine ⟨hn,Oq ks q c (fun x _ a b hab=>e5 d a x b hab) hc,Oq al c r (fun x _ a b hab=>?_) h⟩
    obtain ⟨cc,vs,bd⟩:=x
    rw [Al.nb]
    exact e5 d a bd b hab
  · cases h
def cms (l:List Str):Str:=Lib.join l [44,32]
def Fk (s:Str):Str:=40::(s++[41])
def Fw (l:List Str):Str:=if l=[] then [] else Fk (cms l)
def FC (l:List Str):Str:=Fk (cms l)
def shown (s:Str):Str:=if s=[] then [95] else s
def at0 (l:List Str) (i:Nat):Str:=l.getD i []
def tyN (k:Int) (n:Str) (ts:List Str):Str:=
 if k=1 then [105,110,116] else if k=2 then [98,111,111,108] else if k=3 then [117,110,105,116]
  else if k=7 then [97,114,114,97,121]++Fw ts else if k=8 then [114,101,102]++Fw ts
  else if k=9 then [102,110]++(FC ts.dropLast++([32,45,62,32]++ts.getLastD []))
  else n++Fw ts
mutual
def Cz:TE→Str
 | .mk k n l=>tyN k n (dK l)
def dK:List TE→List Str
 |[]=>[]
 |t::l=>Cz t::dK l
end
theorem Pz:∀l:List TE,dK l=l.map Cz
 |[]=>rfl
 |t::l=>by rw [dK,Pz l];rfl
def Cf (u:Int):Nat:=if u=1∨u=2 then 2 else if u=3∨u=4∨u=5 then 3 else 1
def lvl:Ex→Nat
 | .mk o _ u _ _ _=>if o=7∨o=8∨o=9∨o=10∨o=11∨o=17 then 0 else if o=13 then Cf u else if o=12 then 4 else 5
def pl (d:Nat) (k:Ex) (t:Str):Str:=if lvl k < d then Fk t else t
def opT (u:Int):Str:=V5 u.toNat
def prT (u:Int):Str:=if u=1 then [110,101,119] else if u=2 then [103,101,116] else if u=3 then [115,101,116] else if u=4 then [108,101,110] else if u=5 then [114,101,102] else if u=6 then [114,101,97,100] else [119,114,105,116,101]
def H6:Ex→Bool
 | .mk o _ _ _ ks _=>o==6&&ks.isEmpty
def AAU (ks:List Ex) (ts:List Str):Str:=match ks with
 |[]=>FC ts.tail
 |k::_=>(if H6 k then Fk (at0 ts 0) else pl 4 k (at0 ts 0))++FC ts.tail
def sI (u:Int) (ks:List Ex) (ts:List Str):Str:=match ks with
 |[a,b]=>pl (if Cf u=1 then 2 else Cf u) a (at0 ts 0)++(32::(opT u++(32::pl (if Cf u=1 then 2 else Cf u+1) b (at0 ts 1))))
 |_=>[]
def G4 (o:Int) (n:Str) (u:Int) (ns:List Str) (ks:List Ex) (ts:List Str) (as':List Str):Str:=
 if o=7 then [108,101,116,32]++(shown n++([32,61,32]++(at0 ts 0++([32,105,110,32]++at0 ts 1))))
                                                                   else if o=8 then [108,101,116,32]++(Fw (ns.map shown)++([32,61,32]++(at0 ts 0++([32,105,110,32]++at0 ts 1))))
                                                                   else if o=9 then [105,102,32]++(at0 ts 0++([32,116,104,101,110,32]++(at0 ts 1++([32,101,108,115,101,32]++at0 ts 2))))
                                                                   else if o=10 then [109,97,116,99,104,32]++(at0 ts 0++([32,119,105,116,104,32]++(Lib.join as' [32,124,32]++[32,101,110,100])))
                                                                   else if o=11 then [102,110]++(FC ns++([32,45,62,32]++at0 ts 0))
                                                                   else if o=17 then [116,114,121,32]++(at0 ts 0++([32,99,97,116,99,104,32]++(shown n++([32,45,62,32]++(at0 ts 1++[32,101,110,100])))))
                                                                   else if o=13 then sI u ks ts
                                                                   else if o=12 then AAU ks ts
                                                                   else if o=1 then [40,41]
                                                                   else if o=2 then (if u=1 then [116,114,117,101] else [102,97,108,115,101])
                                                                   else if o=3 then Lib.itoa u
                                                                   else if o=5 then FC ts
                                                                   else if o=14 then prT u++FC ts
                                                                   else if o=16 then [114,97,105,115,101]++FC ts
                                                                   else if o=15 then [116,105,99,107]++Fk (Lib.itoa u)
                                                                   else n++Fw ts
def alT (c:Str) (vs:List Str) (b:Str):Str:=c++(Fw (vs.map shown)++([32,45,62,32]++b))
mutual
def Af:Ex→Str
 | .mk o n u ns ks al=>G4 o n u ns ks (Wj ks) (Ju al)
def Wj:List Ex→List Str
 |[]=>[]
 |t::l=>Af t::Wj l
def E0:Al→Str
 | .mk c vs b=>alT c vs (Af b)
def Ju:List Al→List Str
 |[]=>[]
 |t::l=>E0 t::Ju l
end
theorem H3:∀l:List Ex,Wj l=l.map Af
 |[]=>rfl
 |t::l=>by rw [Wj,H3 l];rfl
theorem Mj:∀l:List Al,Ju l=l.map E0
 |[]=>rfl
 |t::l=>by rw [Ju,Mj l];rfl
def fmtC (c:CE):Str:=c.name++Fw (c.args.map Cz)
def U1 (d:DE):Str:=[100,97,116,97,32]++(d.name++(Fw d.vars++([32,61,32]++(Lib.join (d.cons.map fmtC) [32,124,32]++[59,10]))))
def Vx (f:FE):Str:=[102,117,110,32]++(f.name++(FC f.params++([32,61,32]++(Af f.body++[59,10]))))
def aC (p:Pg):Str:=(p.data.map U1).flatten++(p.Rx.map Vx).flatten
end Go.Ab
namespace Go.Ab
theorem sH {a b:Int} (h:a≠b):(a==b)=false:=by simpa using h
def ABR (s:Str):Prop:=∃b r,s=b::r∧M9 b.toNat=true∧(∀x∈s,CP GW x=true)∧s.length≤24∧S0 s=false
theorem takeWhile_eq {α:Type} {p:α→Bool}:∀ {l:List α},l.takeWhile p=l→∀x∈l,p x=true
 |[],_,x,hx=>by cases hx
 |y::l,h,x,hx=>by
  rw [F5] at h
  split at h
  · rename_i hy
    rcases CT.1 hx with rfl|hx
    · exact hy
    · exact takeWhile_eq (by simpa using h) x hx
  · cases h
theorem WK {b:UInt8} (h:M9 b.toNat=true):US b.toNat=false∧(b==35)=false∧K9 b.toNat=false:=by
 simp only [M9,AN,decide_eq_true_eq] at h
 refine ⟨?_,?_,?_⟩
 · simp only [US,Dw]
   refine ⟨⟨⟨?_,?_⟩,?_⟩,?_⟩<;>(apply sH;omega)
 · cases hb:(b==35) with
   |false=>rfl
   |true=>
    rw [beq_iff_eq] at hb;subst hb
    have:=h.1
    exact absurd this (by decide)
 · simp only [K9,Bool.and_eq_false_iff,decide_eq_false_iff_not];omega
theorem K6:∀(n:Nat) (rest:Str) (i:Nat) (acc:List Tok),(D6 n rest i acc).2.2=0→(D6 n rest i acc).1=[]∨∃tl,(D6 n rest i acc).1=acc++tl∧∀t∈tl,t.text.length≤rest.length
 |0,rest,i,acc,_=>.inl rfl
 |n+1,[],i,acc,_=>.inr ⟨[⟨6,[],i⟩],rfl,fun t ht=>by simp at ht;simp [ht]⟩
 |n+1,b::r,i,acc,h=>by
  rw [D6] at h ⊢
  split at h
  · rename_i hb
    rw [if_pos hb]
    rcases K6 n r (i+1) acc h with h|⟨tl,h1,h2⟩
    · exact .inl h
    · exact .inr ⟨tl,h1,fun t ht=>by have:=h2 t ht;simp only [AB];omega⟩
  · rename_i hb
    rw [if_neg hb]
    split at h
    · rename_i hc
      rw [if_pos hc]
      rcases K6 n _ _ acc h with h|⟨tl,h1,h2⟩
      · exact .inl h
      · exact .inr ⟨tl,h1,fun t ht=>by have:=h2 t ht;rw [An] at this;omega⟩
    · rename_i hc
      rw [if_neg hc]
      cases hs:Da (b::r) with
      |error e=>
       rw [hs] at h
       simp only at h
       rcases P4 hs with rfl|rfl<;>cases h
      |ok x=>
       obtain ⟨k,t⟩:=x
       rw [hs] at h
       simp only at h ⊢
       rcases K6 n _ _ _ h with h|⟨tl,h1,h2⟩
       · exact .inl h
       · refine .inr ⟨⟨k,t,i⟩::tl,by rw [h1];simp,fun u hu=>?_⟩
         rcases CT.1 hu with rfl|hu
         · exact (P5 hs).2
         · have:=h2 u hu;rw [An] at this;omega
theorem V3 {s:Str} (h:D5 s=true):ABR s:=by
 rw [D5,GS] at h
 simp only [AN,beq_iff_eq] at h
 obtain ⟨h0,h1,h2⟩:=h
 rw [BL] at h0 h1 h2
 split at h0
 · cases h0
 · rename_i hle
   rw [if_neg hle] at h1 h2
   match s,h0,h1,h2 with
   |[],_,h1,_=>simp [D6] at h1
   |b::r,h0,h1,h2=>
    rw [show (b::r).length+1=(r.length+1)+1 from rfl] at h0 h1 h2
    rw [D6] at h0 h1 h2
    have hsm:∀(n:Nat) (rest:Str) (i:Nat),rest.length < (b::r).length→(D6 n rest i []).2.2=0→(D6 n rest i []).1.length=2→(match (D6 n rest i []).1 with|[]=>false|a::_=>decide (a.kind=1)&&decide (a.text=b::r))=true→False:=by
     intro n rest i hlt g0 g1 g2
     rcases K6 n rest i [] g0 with h|⟨tl,h,hm⟩
     · rw [h] at g1;cases g1
     · rw [h,A3] at g1 g2
       cases tl with
       |nil=>cases g1
       |cons a tl=>
        simp only [AN,decide_eq_true_eq] at g2
        have:=hm a (Ah ..)
        rw [g2.2] at this
        omega
    have hcv:∀(l:List Tok),(match l with|[]=>false|a::_=>a.kind==1&&a.text==b::r)=true→(match l with|[]=>false|a::_=>decide (a.kind=1)&&decide (a.text=b::r))=true:=by
     intro l hl
     cases l with
     |nil=>cases hl
     |cons a l=>simpa using hl
    split at h0
    · rename_i hb
      rw [if_pos hb] at h1 h2
      exact (hsm _ _ _ (by simp) h0 h1 (hcv _ h2)).elim
    · rename_i hb
      rw [if_neg hb] at h1 h2
      split at h0
      · rename_i hc
        rw [if_pos hc] at h1 h2
        refine (hsm _ _ _ ?_ h0 h1 (hcv _ h2)).elim
        rw [beq_iff_eq] at hc
        subst hc
        have:1≤cmt (35::r):=by simp [cmt]
        rw [An];simp only [AB];omega
      · rename_i hc
        rw [if_neg hc] at h1 h2
        cases hs:Da (b::r) with
        |error e=>
         rw [hs] at h0
         rcases P4 hs with rfl|rfl<;>cases h0
        |ok x=>
         obtain ⟨k,t⟩:=x
         rw [hs] at h0 h1 h2
         rcases K6 _ _ _ _ h0 with h|⟨tl,h,hm⟩
         · rw [h] at h1;cases h1
         · rw [h] at h2
           replace h2:(k==1&&t==b::r)=true:=h2
           rw [AN,beq_iff_eq,beq_iff_eq] at h2
           obtain ⟨rfl,rfl⟩:=h2
           rw [Da] at hs
           split at hs
           · rename_i hlu
             split at hs
             · cases hs
             · rename_i hlen
               split at hs
               · cases hs
               · rename_i hup
                 split at hs
                 · cases hs
                 · rename_i hkey
                   simp only [Gw,B7,true_and] at hs
                   rw [hs] at hlen hkey
                   refine ⟨b,r,rfl,?_,takeWhile_eq hs,by simpa using hlen,by simpa using hkey⟩
                   rw [Qw] at hup
                   rw [hup,Mm] at hlu
                   exact hlu
           · split at hs
             · split at hs
               · cases hs
               · split at hs<;>cases hs
             · split at hs<;>cases hs
end Go.Ab
namespace Go.Ab
abbrev KT:=Int×Str
def OI:Str→Bool
 |[]=>true
 |b::_=>[10,32,40,41,44,59].contains b
def Og (s:Str) (ks:List KT) (rest:Str):Prop:=∀n i acc,(s++rest).length < n→∃n' i' acc',strip acc'=strip acc++ks∧rest.length < n'∧D6 n (s++rest) i acc=D6 n' rest i' acc'
def FJ (s:Str) (ks:List KT):Prop:=∀rest,OI rest=true→Og s ks rest
def Gj (s:Str) (ks:List KT):Prop:=∀rest,Og s ks rest
theorem Og.trans {s1 s2:Str} {k1 k2:List KT} {rest:Str} (h1:Og s1 k1 (s2++rest)) (h2:Og s2 k2 rest):Og (s1++s2) (k1++k2) rest:=fun n i acc hn=>by
 rw [AT] at hn ⊢
 obtain ⟨n1,i1,a1,e1,l1,g1⟩:=h1 n i acc hn
 obtain ⟨n2,i2,a2,e2,l2,g2⟩:=h2 n1 i1 a1 l1
 exact ⟨n2,i2,a2,by rw [e2,e1,AT],l2,by rw [g1,g2]⟩
theorem Og.nil (rest:Str):Og [] [] rest:=fun n i acc hn=>⟨n,i,acc,by simp,hn,rfl⟩
theorem Gj.s {s:Str} {ks:List KT} (h:Gj s ks):FJ s ks:=fun r _=>h r
theorem Gj.nil:Gj [] []:=Og.nil
theorem Gj.a {s1 s2:Str} {k1 k2:List KT} (h1:Gj s1 k1) (h2:Gj s2 k2):Gj (s1++s2) (k1++k2):=fun r=>(h1 _).trans (h2 r)
theorem Gj.ss {s1 s2:Str} {k1 k2:List KT} (h1:Gj s1 k1) (h2:FJ s2 k2):FJ (s1++s2) (k1++k2):=fun r hr=>(h1 _).trans (h2 r hr)
theorem Z5 {s r:Str} (h:OI s=true) (hn:s≠[]):OI (s++r)=true:=by
 cases s with
 |nil=>exact absurd rfl hn
 |cons b l=>exact h
theorem FJ.a {s1 s2:Str} {k1 k2:List KT} (h1:FJ s1 k1) (hs:OI s2=true) (hn:s2≠[]) (h2:Gj s2 k2):Gj (s1++s2) (k1++k2):=fun r=>(h1 _ (Z5 hs hn)).trans (h2 r)
theorem FJ.ss {s1 s2:Str} {k1 k2:List KT} (h1:FJ s1 k1) (hs:OI s2=true) (h2:FJ s2 k2):FJ (s1++s2) (k1++k2):=fun r hr=>by
 by_cases hn:s2=[]
 · subst hn;exact (h1 _ hr).trans (h2 r hr)
 · exact (h1 _ (Z5 hs hn)).trans (h2 r hr)
theorem eB {s rest:Str} {k:Int} (hs:Da (s++rest)= .ok (k,s)) (hb:∀b l,s=b::l→US b.toNat=false∧(b==35)=false):Og s [(k,s)] rest:=fun n i acc hn=>by
 have hl:=(P5 hs).1
 cases s with
 |nil=>simp at hl
 |cons b l=>
  obtain ⟨h1,h2⟩:=hb b l rfl
  cases n with
  |zero=>omega
  |succ n=>
   refine ⟨n,i+(b::l).length,acc++[⟨k,b::l,i⟩],by simp [strip],by simp at hn ⊢;omega,?_⟩
   rw [A0] at hs ⊢
   rw [D6,if_neg (by rw [h1];decide),if_neg (by rw [h2];decide),hs]
   simp only
   rw [← A0,List.drop_left]
theorem cA {b:UInt8} (hb:US b.toNat=true):Gj [b] []:=fun rest n i acc hn=>by
 cases n with
 |zero=>omega
 |succ n=>exact ⟨n,i+1,acc,by simp,by simp at hn;omega,by rw [A0,A3,D6,if_pos hb]⟩
theorem IX:Gj [32] []:=cA (by decide)
theorem ABL:Gj [10] []:=cA (by decide)
theorem eY {p:UInt8→Bool} {s rest:Str} (h:∀x∈s,p x=true) (hr:∀b l,rest=b::l→p b=false):(s++rest).takeWhile p=s:=by
 induction s with
 |nil=>
  cases rest with
  |nil=>rfl
  |cons b l=>rw [A3,F5,hr b l rfl];rfl
 |cons x s ih=>rw [A0,F5,h x (Ah ..),if_pos rfl,ih (fun y hy=>h y (Am _ hy))]
theorem vW {rest:Str} (h:OI rest=true):∀b l,rest=b::l→CP GW b=false:=by
 rintro b l rfl
 have:∀c∈([10,32,40,41,44,59]:Str),CP GW c=false:=by decide
 exact this b (by simpa [OI,Dx] using h)
theorem vV {rest:Str} (h:OI rest=true):∀b l,rest=b::l→CP Em b=false:=by
 rintro b l rfl
 have:∀c∈([10,32,40,41,44,59]:Str),CP Em c=false:=by decide
 exact this b (by simpa [OI,Dx] using h)
theorem Yq {b:UInt8} {r:Str} (hlu:(M9 b.toNat||K9 b.toNat)=true) (hw:∀x∈b::r,CP GW x=true) (hl:(b::r).length≤24):FJ (b::r) [(if K9 b.toNat then 2 else if S0 (b::r) then 4 else 1,b::r)]:=fun rest hr=>by
 refine eB ?_ (fun c l e=>?_)
 · have ht:=eY hw (vW hr)
   rw [A0] at ht ⊢
   rw [Da,if_pos hlu,ht,if_neg (by simp only [decide_eq_true_eq];omega)]
   split
   · rfl
   · split<;>rfl
 · cases e
   simp only [M9,K9,BV,AN,decide_eq_true_eq] at hlu
   refine ⟨?_,?_⟩
   · simp only [US,Dw]
     refine ⟨⟨⟨?_,?_⟩,?_⟩,?_⟩<;>(apply sH;omega)
   · cases hb:(b==35) with
     |false=>rfl
     |true=>
      rw [beq_iff_eq] at hb;subst hb
      exfalso
      rcases hlu with h|h
      · have:=h.1;revert this;decide
      · have:=h.1;revert this;decide
theorem NP {s:Str} (h:D5 s=true):FJ s [(1,s)]:=by
 obtain ⟨b,r,rfl,h1,h2,h3,h4⟩:=V3 h
 have:=Yq (b:=b) (r:=r) (by rw [h1];rfl) h2 h3
 have hu:K9 b.toNat=false:=(WK h1).2.2
 rw [hu,h4] at this
 exact this
theorem xU {s:Str} (h:S0 s=true) (b:UInt8) (r:Str) (e:s=b::r) (hl:M9 b.toNat=true) (hw:∀x∈b::r,CP GW x=true) (hn:(b::r).length≤24):FJ s [(4,s)]:=by
 subst e
 have:=Yq (b:=b) (r:=r) (by rw [hl];rfl) hw hn
 have hu:K9 b.toNat=false:=(WK hl).2.2
 rw [hu,h] at this
 exact this
theorem U9 {s:Str} (h:S0 s=true):FJ s [(4,s)]:=by
 have ha:FP.all (fun w=>match w with|[]=>false|b::r=>M9 b.toNat&&(b::r).all (CP GW)&&decide ((b::r).length≤24))=true:=by decide
 have hm:s∈FP:=by
  simp only [S0,List.any_eq_true,beq_iff_eq] at h
  obtain ⟨x,hx,rfl⟩:=h
  exact hx
 have:=A7.1 ha s hm
 match s,this,h with
 |b::r,this,h=>
  simp only [AN,decide_eq_true_eq,A7] at this
  exact xU h b r rfl this.1.1 this.1.2 this.2
theorem gX {s rest:Str} (h0:s∈UL) (h1:∀b l,s=b::l→(M9 b.toNat||K9 b.toNat)=false∧Em b.toNat=false∧US b.toNat=false∧(b==35)=false) (h2:(s++rest).take (GH (s++rest))=s):Og s [(5,s)] rest:=by
 cases s with
 |nil=>exact absurd h0 (by decide)
 |cons b l=>
  obtain ⟨a1,a2,a3,a4⟩:=h1 b l rfl
  refine eB ?_ (fun c l' e=>by cases e;exact ⟨a3,a4⟩)
  rw [A0] at h2 ⊢
  rw [Da,if_neg (by rw [a1];decide),if_neg (by rw [a2];decide),if_neg (by rw [h2];simp),h2]
theorem J2 (s:Str) (h0:s∈UL) (h:s≠[45]∧s≠[60]∧s≠[61]):Gj s [(5,s)]:=fun rest=>by
 have hall:∀s∈UL,s≠[45]∧s≠[60]∧s≠[61]→(match s with|[]=>false|b::_=>!(M9 b.toNat||K9 b.toNat)&& !Em b.toNat&& !US b.toNat&& !(b==35))=true∧((∃b,s=[b]∧aV b=1∧(b==45)=false∧(b==60)=false∧(b==61)=false)∨∃b c,s=[b,c]∧aW b c=true):=by
  intro s hs hn
  simp only [UL,CT,List.not_mem_nil,or_false] at hs
  rcases hs with rfl|rfl|rfl|rfl|rfl|rfl|rfl|rfl|rfl|rfl|rfl|rfl|rfl|rfl|rfl|rfl<;>first
   |exact ⟨by decide,.inr ⟨_,_,rfl,by decide⟩⟩
   |exact ⟨by decide,.inl ⟨_,rfl,by decide,by decide,by decide,by decide⟩⟩
   |exact absurd rfl hn.1
   |exact absurd rfl hn.2.1
   |exact absurd rfl hn.2.2
 obtain ⟨f1,f2⟩:=hall s h0 h
 refine gX h0 (fun b l e=>?_) ?_
 · subst e
   simp only [AN,CS] at f1
   exact ⟨f1.1.1.1,f1.1.1.2,f1.1.2,f1.2⟩
 · rcases f2 with ⟨b,rfl,g1,g2,g3,g4⟩|⟨b,c,rfl,g⟩
   · cases rest with
     |nil=>rw [A1,GH,g1];rfl
     |cons c l=>
      have:aW b c=false:=by
       simp only [aW,Dw,List.cons_beq_cons,g2,g3,g4,E5,and_self]
      rw [A0,A3,GH,this,if_neg (by decide),g1];rfl
   · rw [A0,A0,A3,GH,if_pos g];rfl
theorem eT (b:UInt8) (hb:b=45∨b=60∨b=61) {rest:Str} (hr:∀c l,rest=c::l→(c==61)=false∧(c==62)=false):Og [b] [(5,[b])] rest:=by
 refine gX (by rcases hb with rfl|rfl|rfl<;>decide) (fun c l e=>?_) ?_
 · cases e
   rcases hb with rfl|rfl|rfl<;>decide
 · cases rest with
   |nil=>rcases hb with rfl|rfl|rfl<;>rfl
   |cons c l=>
    obtain ⟨g1,g2⟩:=hr c l rfl
    have:aW b c=false:=by
     simp only [aW,Dw,List.cons_beq_cons,g1,g2,D9,E5,and_self]
    rw [A0,A3,GH,this,if_neg (by decide)]
    rcases hb with rfl|rfl|rfl<;>rfl
theorem Z6 {rest:Str} (h:OI rest=true):∀c l,rest=c::l→(c==61)=false∧(c==62)=false:=by
 rintro b l rfl
 have:∀c∈([10,32,40,41,44,59]:Str),(c==61)=false∧(c==62)=false:=by decide
 exact this b (by simpa [OI,Dx] using h)
end Go.Ab
namespace Go.Ab
theorem u8n {n:Nat} (h:n < 256):(I2 n).toNat=n:=by simp [Nat.mod_eq_of_lt h]
theorem kB:∀(n:Nat),∀x∈Lib.decDigits n,CP Em x=true:=by
 intro n
 induction n using Nat.strongRecOn with
 |_ n ih=>
 intro x hx
 rw [Lib.decDigits] at hx
 have hd:∀m,m < 10→CP Em (I2 (48+m))=true:=fun m hm=>by
  simp only [CP,Em,u8n (show 48+m < 256 by omega),AN,decide_eq_true_eq];omega
 split at hx
 · rename_i h
   rw [Dv] at hx;rw [hx];exact hd n h
 · rename_i h
   rcases BW.1 hx with hx|hx
   · exact ih (n / 10) (by omega) x hx
   · rw [Dv] at hx;rw [hx];exact hd _ (by omega)
theorem cW:∀(s t:Str) (v:Int),FI (s++t) v=(FI s v).bind (FI t)
 |[],t,v=>rfl
 |b::s,t,v=>by
  rw [A0,FI,FI]
  split
  · rfl
  · exact cW s t _
theorem sX:∀(n:Nat),n≤1000000→FI (Lib.decDigits n) 0=some (n:Int):=by
 intro n
 induction n using Nat.strongRecOn with
 |_ n ih=>
 intro hn
 have hw:∀m,m < 10→IntKind.u8.wrap (((I2 (48+m)).toNat:Int) - 48)=m:=fun m hm=>by
  rw [u8n (by omega)]
  have:IntKind.u8.wrap (((48+m:Nat):Int) - 48)=(((48+m:Nat):Int) - 48) % 256:=rfl
  rw [this];omega
 rw [Lib.decDigits]
 split
 · rename_i h
   rw [FI,hw n h,if_neg (by omega),FI]
   congr 1;omega
 · rename_i h
   rw [cW,ih (n / 10) (by omega) (by omega),BY,FI,hw _ (by omega),if_neg (by omega),FI]
   congr 1;omega
theorem mZ:∀(n:Nat),1≤n→∃b l,Lib.decDigits n=b::l∧(b==48)=false:=by
 intro n
 induction n using Nat.strongRecOn with
 |_ n ih=>
 intro hn
 rw [Lib.decDigits]
 split
 · rename_i h
   refine ⟨_,[],rfl,?_⟩
   cases hb:(I2 (48+n)==48) with
   |false=>rfl
   |true=>
    rw [beq_iff_eq] at hb
    have:=congrArg UInt8.toNat hb
    rw [u8n (by omega)] at this
    have h2:(48:UInt8).toNat=48:=rfl
    omega
 · rename_i h
   obtain ⟨b,l,e,hb⟩:=ih (n / 10) (by omega) (by omega)
   exact ⟨b,l++[_],by rw [e];rfl,hb⟩
theorem yK {n:Nat} (h:n≤1000000):RR (Lib.decDigits n)=n:=by rw [RR,sX n h];rfl
theorem nV {n:Nat} (h:n≤1000000):FJ (Lib.decDigits n) [(3,Lib.decDigits n)]:=fun rest hr=>by
 have ha:=kB n
 have hv:=sX n h
 have hh:∃b l,Lib.decDigits n=b::l∧(b==48&&decide ((b::l).length>1))=false:=by
  by_cases h0:n=0
  · subst h0;exact ⟨48,[],by rw [Lib.decDigits];rfl,rfl⟩
  · obtain ⟨b,l,e,hb⟩:=mZ n (by omega)
    exact ⟨b,l,e,by rw [hb];rfl⟩
 obtain ⟨b,l,e,h48⟩:=hh
 rw [e] at ha hv ⊢
 have hd:=ha b (Ah ..)
 simp only [CP] at hd
 have hdn:=hd
 simp only [Em,AN,decide_eq_true_eq] at hdn
 have ht:=eY ha (vV hr)
 refine eB ?_ (fun c l' e'=>?_)
 · rw [A0] at ht ⊢
   have hlu:¬(M9 b.toNat||K9 b.toNat)=true:=by
    simp only [M9,K9,BV,AN,decide_eq_true_eq];omega
   rw [Da,if_neg hlu,if_pos hd,ht,h48,if_neg (by decide),hv];rfl
 · cases e'
   refine ⟨?_,?_⟩
   · simp only [US,Dw]
     refine ⟨⟨⟨?_,?_⟩,?_⟩,?_⟩<;>(apply sH;omega)
   · cases hb:(b==35) with
     |false=>rfl
     |true=>
      rw [beq_iff_eq] at hb;subst hb
      exact absurd hdn.1 (by decide)
def UM (u:Int):List KT:=if u < 0 then [(5,[45]),(3,Lib.decDigits u.natAbs)] else [(3,Lib.decDigits u.toNat)]
theorem gV {u:Int} (h1: -1000000≤u) (h2:u≤1000000):FJ (Lib.itoa u) (UM u):=by
 unfold Lib.itoa UM
 split
 · rename_i h
   intro rest hr
   refine Og.trans (s1:=[45]) (k1:=[(5,[45])]) (eT 45 (.inl rfl) ?_) (nV (by omega) rest hr)
   intro c l e
   have hall:∀x:UInt8,CP Em x=true→(x==61)=false∧(x==62)=false:=fun x hx=>by
    simp only [CP,Em,AN,decide_eq_true_eq] at hx
    constructor
    · cases hb:(x==61) with
      |false=>rfl
      |true=>rw [beq_iff_eq] at hb;subst hb;exact absurd hx.2 (by decide)
    · cases hb:(x==62) with
      |false=>rfl
      |true=>rw [beq_iff_eq] at hb;subst hb;exact absurd hx.2 (by decide)
   obtain ⟨b,l2,e2⟩:∃b l2,Lib.decDigits u.natAbs=b::l2:=by
    obtain ⟨b,l2,e2,_⟩:=mZ u.natAbs (by omega)
    exact ⟨b,l2,e2⟩
   have hb:=hall b (kB u.natAbs b (by rw [e2];exact Ah ..))
   rw [e2] at e
   cases e
   exact hb
 · exact nV (by omega)
theorem TP {s:Str} (h:upperB s=true):∃b r,s=b::r∧K9 b.toNat=true∧(∀x∈b::r,CP GW x=true)∧(b::r).length≤24:=by
 rw [upperB,GS] at h
 simp only [AN,beq_iff_eq] at h
 obtain ⟨h0,h1,h2⟩:=h
 rw [BL] at h0 h1 h2
 split at h0
 · cases h0
 · rename_i hle
   rw [if_neg hle] at h1 h2
   match s,h0,h1,h2 with
   |[],_,h1,_=>simp [D6] at h1
   |b::r,h0,h1,h2=>
    rw [show (b::r).length+1=(r.length+1)+1 from rfl] at h0 h1 h2
    rw [D6] at h0 h1 h2
    have hsm:∀(n:Nat) (rest:Str) (i:Nat),rest.length < (b::r).length→(D6 n rest i []).2.2=0→(D6 n rest i []).1.length=2→(match (D6 n rest i []).1 with|[]=>false|a::_=>a.kind==2&&a.text==b::r)=true→False:=by
     intro n rest i hlt g0 g1 g2
     rcases K6 n rest i [] g0 with h|⟨tl,h,hm⟩
     · rw [h] at g1;cases g1
     · rw [h,A3] at g1 g2
       cases tl with
       |nil=>cases g1
       |cons a tl=>
        simp only [AN,beq_iff_eq] at g2
        have:=hm a (Ah ..)
        rw [g2.2] at this
        omega
    split at h0
    · rename_i hb
      rw [if_pos hb] at h1 h2
      exact (hsm _ _ _ (by simp) h0 h1 h2).elim
    · rename_i hb
      rw [if_neg hb] at h1 h2
      split at h0
      · rename_i hc
        rw [if_pos hc] at h1 h2
        refine (hsm _ _ _ ?_ h0 h1 h2).elim
        rw [beq_iff_eq] at hc
        subst hc
        have:1≤cmt (35::r):=by simp [cmt]
        rw [An];simp only [AB];omega
      · rename_i hc
        rw [if_neg hc] at h1 h2
        cases hs:Da (b::r) with
        |error e=>
         rw [hs] at h0
         rcases P4 hs with rfl|rfl<;>cases h0
        |ok x=>
         obtain ⟨k,t⟩:=x
         rw [hs] at h0 h1 h2
         rcases K6 _ _ _ _ h0 with h|⟨tl,h,hm⟩
         · rw [h] at h1;cases h1
         · rw [h] at h2
           replace h2:(k==2&&t==b::r)=true:=h2
           rw [AN,beq_iff_eq,beq_iff_eq] at h2
           obtain ⟨rfl,rfl⟩:=h2
           rw [Da] at hs
           split at hs
           · split at hs
             · cases hs
             · rename_i hlen
               split at hs
               · rename_i hup
                 simp only [Gw,B7,true_and] at hs
                 rw [hs] at hlen
                 exact ⟨b,r,rfl,hup,takeWhile_eq hs,by simpa using hlen⟩
               · split at hs<;>cases hs
           · split at hs
             · split at hs
               · cases hs
               · split at hs<;>cases hs
             · split at hs<;>cases hs
theorem PI {s:Str} (h:upperB s=true):FJ s [(2,s)]:=by
 obtain ⟨b,r,rfl,h1,h2,h3⟩:=TP h
 have:=Yq (b:=b) (r:=r) (by rw [h1,Od]) h2 h3
 rw [h1,if_pos rfl] at this
 exact this
def shK (s:Str):List KT:=if s=[] then [(5,[95])] else [(1,s)]
theorem WJ {s:Str} (h:GZ s=true):FJ (shown s) (shK s):=by
 unfold shown shK
 split
 · exact (J2 [95] (by decide) (by decide)).s
 · rename_i hs
   simp only [GZ,BV,beq_iff_eq] at h
   rcases h with h|h
   · exact absurd h hs
   · exact NP h
def cmK (l:List (List KT)):List KT:=[(5,[44])].intercalate l
def IC (k:List KT):List KT:=(5,[40])::(k++[(5,[41])])
def V6 (l:List (List KT)):List KT:=if l=[] then [] else IC (cmK l)
def Lp (l:List (List KT)):List KT:=IC (cmK l)
theorem nJ {α:Type} (sep x:List α):sep.intercalate [x]=x:=by simp [List.intercalate]
theorem dT {α:Type} (sep x y:List α) (l:List (List α)):sep.intercalate (x::y::l)=x++(sep++sep.intercalate (y::l)):=by
 simp [List.intercalate,List.intersperse]
theorem VZ {α:Type} {sep:Str} {ks:List KT} (hs:Gj sep ks) (hst:OI sep=true) (hne:sep≠[]) (f:α→Str) (g:α→List KT):∀l:List α,(∀x∈l,FJ (f x) (g x))→FJ (Lib.join (l.map f) sep) (ks.intercalate (l.map g))
 |[],_=>Gj.nil.s
 |[x],h=>by
  simp only [Lib.join,AF,AI,nJ]
  exact h x (Ah ..)
 |x::y::l,h=>by
  have ih:=VZ hs hst hne f g (y::l) (fun z hz=>h z (Am _ hz))
  simp only [Lib.join,AF,dT] at ih ⊢
  exact (h x (Ah ..)).ss (Z5 hst hne) (hs.ss ih)
theorem qM:Gj [44,32] [(5,[44])]:=(J2 [44] (by decide) (by decide)).a IX
theorem tW:Gj [40] [(5,[40])]:=J2 _ (by decide) (by decide)
theorem uA:Gj [41] [(5,[41])]:=J2 _ (by decide) (by decide)
theorem V1 {s:Str} {k:List KT} (h:FJ s k):Gj (Fk s) (IC k):=tW.a (h.a rfl (by decide) uA)
theorem nS {α:Type} (f:α→Str) (g:α→List KT) (l:List α) (h:∀x∈l,FJ (f x) (g x)):FJ (cms (l.map f)) (cmK (l.map g)):=VZ qM rfl (by decide) f g l h
theorem TJ {α:Type} (f:α→Str) (g:α→List KT) (l:List α) (h:∀x∈l,FJ (f x) (g x)):Gj (Fw (l.map f)) (V6 (l.map g)):=by
 unfold Fw V6
 cases l with
 |nil=>exact Gj.nil
 |cons x l=>exact V1 (nS f g (x::l) h)
theorem V0 {α:Type} (f:α→Str) (g:α→List KT) (l:List α) (h:∀x∈l,FJ (f x) (g x)):Gj (FC (l.map f)) (Lp (l.map g)):=V1 (nS f g l h)
theorem N1 (l:List Str) {r:Str} (hr:OI r=true):OI (Fw l++r)=true:=by
 unfold Fw;split
 · exact hr
 · rfl
theorem TI:Gj [32,45,62,32] [(5,[45,62])]:=IX.a ((J2 [45,62] (by decide) (by decide)).a IX)
theorem eA:Gj [32,61,32] [(5,[61])]:=IX.a (fun rest=>(eT 61 (.inr (.inr rfl)) (Z6 (rest:=32::rest) rfl)).trans (IX rest))
theorem WI {s:Str} (h:S0 s=true):Gj (32::(s++[32])) [(4,s)]:=IX.a ((U9 h).a rfl (by decide) IX)
theorem QO {s:Str} (h:S0 s=true):Gj (s++[32]) [(4,s)]:=(U9 h).a rfl (by decide) IX
theorem nT {s:Str} (h:S0 s=true):FJ (32::s) [(4,s)]:=IX.ss (U9 h)
end Go.Ab
