/- Texts of programs in plain data. Names as tokens, in plain data. The tokens of formatted texts, in plain data: the pieces. The tokens of formatted texts, in plain data: types, expressions, programs. Conditions: none. -/
import Derived.Lib.ItoaNum
import Derived.Lib.Join
import Derived.Test.YtifplkldbbcldaaGreatDoorXQa
set_option linter.unusedSimpArgs false
set_option linter.unusedVariables false
set_option maxRecDepth 4000
set_option maxHeartbeats 8000000
open Option renaming bind_eq_bind→AT,bind_eq_some_iff→AB,bind_some→B3
open List renaming mem_cons→Bv,mem_cons_self→Aa,mem_cons_of_mem→Ai,takeWhile_cons→Bg,length_cons→AD,length_drop→Ag,nil_append→A6,append_assoc→AS,cons_append→AY,contains_eq_mem→Dv,all_eq_true→A5,append_nil→A1,mem_singleton→Ev,mem_append→BV,map_cons→AF,map_nil→AI
open Bool renaming and_eq_true→AL,or_eq_false_iff→Cw,not_eq_true→Q4,or_false→M0,or_eq_true→BM,not_eq_true'→CP,false_and→FJ,and_false→D5,or_true→ON
open Except.ok renaming injEq→Dj
open Prod.mk renaming injEq→BH
namespace Go.Ab
mutual
def Ex.nb:Ex→Prop
 | .mk o n u ns ks al=>GS o n u ns ks.length al=true∧Ex.nbs ks∧Al.nbs al
def Ex.nbs:List Ex→Prop
 |[]=>True
 |t::l=>t.nb∧Ex.nbs l
def Al.nb:Al→Prop
 | .mk _ _ b=>b.nb
def Al.nbs:List Al→Prop
 |[]=>True
 |t::l=>t.nb∧Al.nbs l
end
theorem Ex.Ng:∀ {l:List Ex},Ex.nbs l↔∀t∈l,t.nb
 |[]=>by simp [Ex.nbs]
 |t::l=>by simp [Ex.nbs,Ex.Ng (l:=l)]
theorem Al.Ng:∀ {l:List Al},Al.nbs l↔∀t∈l,t.nb
 |[]=>by simp [Al.nbs]
 |t::l=>by simp [Al.nbs,Al.Ng (l:=l)]
theorem OY {α:Type} {f:Nat→α→Option Nat} {Q:α→Prop}:∀(l:List α) (q r:Nat),(∀x∈l,∀a b,f a x=some b→Q x)→l.foldlM f q=some r→∀x∈l,Q x
 |[],_,_,_,_,x,hx=>by cases hx
 |y::l,q,r,hf,h,x,hx=>by
  rw [List.foldlM_cons,AT,AB] at h
  obtain ⟨b,hb,h⟩:=h
  rcases Bv.1 hx with rfl|hx
  · exact hf _ (Aa ..) q b hb
  · exact OY l b r (fun z hz=>hf z (Ai _ hz)) h x hx
theorem cI:∀(d q:Nat) (e:Ex) (r:Nat),vEx d q e=some r→e.nb
 |0,q,.mk ..,r,h=>by simp [vEx] at h
 |d+1,0,.mk ..,r,h=>by cases h
 |d+1,q+1,.mk o n u ns ks al,r,h=>by
  simp only [vEx] at h
  split at h
  · rename_i hn
    rw [AB] at h
    obtain ⟨c,hc,h⟩:=h
    rw [Ex.nb,Ex.Ng,Al.Ng]
    refine ⟨hn,OY ks q c (fun x _ a b hab=>cI d a x b hab) hc,OY al c r (fun x _ a b hab=>?_) h⟩
    obtain ⟨cc,vs,bd⟩:=x
    rw [Al.nb]
    exact cI d a bd b hab
  · cases h
def cms (l:List Str):Str:=Lib.join l [44,32]
def JT (s:Str):Str:=40::(s++[41])
def Ik (l:List Str):Str:=if l=[] then [] else JT (cms l)
def Ij (l:List Str):Str:=JT (cms l)
def shown (s:Str):Str:=if s=[] then [95] else s
def at0 (l:List Str) (i:Nat):Str:=l.getD i []
def tyN (k:Int) (n:Str) (ts:List Str):Str:=
 if k=1 then [105,110,116] else if k=2 then [98,111,111,108] else if k=3 then [117,110,105,116]
  else if k=7 then [97,114,114,97,121]++Ik ts else if k=8 then [114,101,102]++Ik ts
  else if k=9 then [102,110]++(Ij ts.dropLast++([32,45,62,32]++ts.getLastD []))
  else n++Ik ts
mutual
def Cv:TE→Str
 | .mk k n l=>tyN k n (aY l)
def aY:List TE→List Str
 |[]=>[]
 |t::l=>Cv t::aY l
end
theorem P5:∀l:List TE,aY l=l.map Cv
 |[]=>rfl
 |t::l=>by rw [aY,P5 l];rfl
def Ee (u:Int):Nat:=if u=1∨u=2 then 2 else if u=3∨u=4∨u=5 then 3 else 1
def lvl:Ex→Nat
 | .mk o _ u _ _ _=>if o=7∨o=8∨o=9∨o=10∨o=11∨o=17 then 0 else if o=13 then Ee u else if o=12 then 4 else 5
def pl (d:Nat) (k:Ex) (t:Str):Str:=if lvl k < d then JT t else t
def opT (u:Int):Str:=Us u.toNat
def prT (u:Int):Str:=if u=1 then [110,101,119] else if u=2 then [103,101,116] else if u=3 then [115,101,116] else if u=4 then [108,101,110] else if u=5 then [114,101,102] else if u=6 then [114,101,97,100] else [119,114,105,116,101]
def M3:Ex→Bool
 | .mk o _ _ _ ks _=>o==6&&ks.isEmpty
def yD (ks:List Ex) (ts:List Str):Str:=match ks with
 |[]=>Ij ts.tail
 |k::_=>(if M3 k then JT (at0 ts 0) else pl 4 k (at0 ts 0))++Ij ts.tail
def yH (u:Int) (ks:List Ex) (ts:List Str):Str:=match ks with
 |[a,b]=>pl (if Ee u=1 then 2 else Ee u) a (at0 ts 0)++(32::(opT u++(32::pl (if Ee u=1 then 2 else Ee u+1) b (at0 ts 1))))
 |_=>[]
def P0 (o:Int) (n:Str) (u:Int) (ns:List Str) (ks:List Ex) (ts:List Str) (as':List Str):Str:=
 if o=7 then [108,101,116,32]++(shown n++([32,61,32]++(at0 ts 0++([32,105,110,32]++at0 ts 1))))
                                                                   else if o=8 then [108,101,116,32]++(Ik (ns.map shown)++([32,61,32]++(at0 ts 0++([32,105,110,32]++at0 ts 1))))
                                                                   else if o=9 then [105,102,32]++(at0 ts 0++([32,116,104,101,110,32]++(at0 ts 1++([32,101,108,115,101,32]++at0 ts 2))))
                                                                   else if o=10 then [109,97,116,99,104,32]++(at0 ts 0++([32,119,105,116,104,32]++(Lib.join as' [32,124,32]++[32,101,110,100])))
                                                                   else if o=11 then [102,110]++(Ij ns++([32,45,62,32]++at0 ts 0))
                                                                   else if o=17 then [116,114,121,32]++(at0 ts 0++([32,99,97,116,99,104,32]++(shown n++([32,45,62,32]++(at0 ts 1++[32,101,110,100])))))
                                                                   else if o=13 then yH u ks ts
                                                                   else if o=12 then yD ks ts
                                                                   else if o=1 then [40,41]
                                                                   else if o=2 then (if u=1 then [116,114,117,101] else [102,97,108,115,101])
                                                                   else if o=3 then Lib.itoa u
                                                                   else if o=5 then Ij ts
                                                                   else if o=14 then prT u++Ij ts
                                                                   else if o=16 then [114,97,105,115,101]++Ij ts
                                                                   else if o=15 then [116,105,99,107]++JT (Lib.itoa u)
                                                                   else n++Ik ts
def alT (c:Str) (vs:List Str) (b:Str):Str:=c++(Ik (vs.map shown)++([32,45,62,32]++b))
mutual
def BA:Ex→Str
 | .mk o n u ns ks al=>P0 o n u ns ks (WB ks) (Jl al)
def WB:List Ex→List Str
 |[]=>[]
 |t::l=>BA t::WB l
def Mh:Al→Str
 | .mk c vs b=>alT c vs (BA b)
def Jl:List Al→List Str
 |[]=>[]
 |t::l=>Mh t::Jl l
end
theorem MW:∀l:List Ex,WB l=l.map BA
 |[]=>rfl
 |t::l=>by rw [WB,MW l];rfl
theorem VV:∀l:List Al,Jl l=l.map Mh
 |[]=>rfl
 |t::l=>by rw [Jl,VV l];rfl
def fmtC (c:CE):Str:=c.name++Ik (c.args.map Cv)
def Tr (d:DE):Str:=[100,97,116,97,32]++(d.name++(Ik d.vars++([32,61,32]++(Lib.join (d.cons.map fmtC) [32,124,32]++[59,10]))))
def VW (f:FE):Str:=[102,117,110,32]++(f.name++(Ij f.params++([32,61,32]++(BA f.body++[59,10]))))
def ZL (p:Pg):Str:=(p.data.map Tr).flatten++(p.P6.map VW).flatten
end Go.Ab
namespace Go.Ab
theorem j4 {a b:Int} (h:a≠b):(a==b)=false:=by simpa using h
def zC (s:Str):Prop:=∃b r,s=b::r∧LC b.toNat=true∧(∀x∈s,Bf FH x=true)∧s.length≤24∧Rs s=false
theorem takeWhile_eq {α:Type} {p:α→Bool}:∀ {l:List α},l.takeWhile p=l→∀x∈l,p x=true
 |[],_,x,hx=>by cases hx
 |y::l,h,x,hx=>by
  rw [Bg] at h
  split at h
  · rename_i hy
    rcases Bv.1 hx with rfl|hx
    · exact hy
    · exact takeWhile_eq (by simpa using h) x hx
  · cases h
theorem V8 {b:UInt8} (h:LC b.toNat=true):Sl b.toNat=false∧(b==35)=false∧JX b.toNat=false:=by
 simp only [LC,AL,decide_eq_true_eq] at h
 refine ⟨?_,?_,?_⟩
 · simp only [Sl,Cw]
   refine ⟨⟨⟨?_,?_⟩,?_⟩,?_⟩<;>(apply j4;omega)
 · cases hb:(b==35) with
   |false=>rfl
   |true=>
    rw [beq_iff_eq] at hb;subst hb
    have:=h.1
    exact absurd this (by decide)
 · simp only [JX,Bool.and_eq_false_iff,decide_eq_false_iff_not];omega
theorem KQ:∀(n:Nat) (rest:Str) (i:Nat) (acc:List Tok),(C4 n rest i acc).2.2=0→(C4 n rest i acc).1=[]∨∃tl,(C4 n rest i acc).1=acc++tl∧∀t∈tl,t.text.length≤rest.length
 |0,rest,i,acc,_=>.inl rfl
 |n+1,[],i,acc,_=>.inr ⟨[⟨6,[],i⟩],rfl,fun t ht=>by simp at ht;simp [ht]⟩
 |n+1,b::r,i,acc,h=>by
  rw [C4] at h ⊢
  split at h
  · rename_i hb
    rw [if_pos hb]
    rcases KQ n r (i+1) acc h with h|⟨tl,h1,h2⟩
    · exact .inl h
    · exact .inr ⟨tl,h1,fun t ht=>by have:=h2 t ht;simp only [AD];omega⟩
  · rename_i hb
    rw [if_neg hb]
    split at h
    · rename_i hc
      rw [if_pos hc]
      rcases KQ n _ _ acc h with h|⟨tl,h1,h2⟩
      · exact .inl h
      · exact .inr ⟨tl,h1,fun t ht=>by have:=h2 t ht;rw [Ag] at this;omega⟩
    · rename_i hc
      rw [if_neg hc]
      cases hs:CK (b::r) with
      |error e=>
       rw [hs] at h
       simp only at h
       rcases NF hs with rfl|rfl<;>cases h
      |ok x=>
       obtain ⟨k,t⟩:=x
       rw [hs] at h
       simp only at h ⊢
       rcases KQ n _ _ _ h with h|⟨tl,h1,h2⟩
       · exact .inl h
       · refine .inr ⟨⟨k,t,i⟩::tl,by rw [h1];simp,fun u hu=>?_⟩
         rcases Bv.1 hu with rfl|hu
         · exact (NG hs).2
         · have:=h2 u hu;rw [Ag] at this;omega
theorem Xz {s:Str} (h:D1 s=true):zC s:=by
 rw [D1,GH] at h
 simp only [AL,beq_iff_eq] at h
 obtain ⟨h0,h1,h2⟩:=h
 rw [Am] at h0 h1 h2
 split at h0
 · cases h0
 · rename_i hle
   rw [if_neg hle] at h1 h2
   match s,h0,h1,h2 with
   |[],_,h1,_=>simp [C4] at h1
   |b::r,h0,h1,h2=>
    rw [show (b::r).length+1=(r.length+1)+1 from rfl] at h0 h1 h2
    rw [C4] at h0 h1 h2
    have hsm:∀(n:Nat) (rest:Str) (i:Nat),rest.length < (b::r).length→(C4 n rest i []).2.2=0→(C4 n rest i []).1.length=2→(match (C4 n rest i []).1 with|[]=>false|a::_=>decide (a.kind=1)&&decide (a.text=b::r))=true→False:=by
     intro n rest i hlt g0 g1 g2
     rcases KQ n rest i [] g0 with h|⟨tl,h,hm⟩
     · rw [h] at g1;cases g1
     · rw [h,A6] at g1 g2
       cases tl with
       |nil=>cases g1
       |cons a tl=>
        simp only [AL,decide_eq_true_eq] at g2
        have:=hm a (Aa ..)
        rw [g2.2] at this
        omega
    have hcv:∀(l:List Tok),(match l with|[]=>false|a::_=>a.kind==1&&a.text==b::r)=true→(match l with|[]=>false|a::_=>decide (a.kind=1)&&decide (a.text=b::r))=true:=by
     intro l hl
     cases l with
     |nil=>cases hl
     |cons a l=>simpa using hl
    split at h0
    · rename_i hb
      rw [if_pos hb] at h1 h2
      exact (hsm _ _ _ (by simp) h0 h1 (hcv _ h2)).elim
    · rename_i hb
      rw [if_neg hb] at h1 h2
      split at h0
      · rename_i hc
        rw [if_pos hc] at h1 h2
        refine (hsm _ _ _ ?_ h0 h1 (hcv _ h2)).elim
        rw [beq_iff_eq] at hc
        subst hc
        have:1≤cmt (35::r):=by simp [cmt]
        rw [Ag];simp only [AD];omega
      · rename_i hc
        rw [if_neg hc] at h1 h2
        cases hs:CK (b::r) with
        |error e=>
         rw [hs] at h0
         rcases NF hs with rfl|rfl<;>cases h0
        |ok x=>
         obtain ⟨k,t⟩:=x
         rw [hs] at h0 h1 h2
         rcases KQ _ _ _ _ h0 with h|⟨tl,h,hm⟩
         · rw [h] at h1;cases h1
         · rw [h] at h2
           replace h2:(k==1&&t==b::r)=true:=h2
           rw [AL,beq_iff_eq,beq_iff_eq] at h2
           obtain ⟨rfl,rfl⟩:=h2
           rw [CK] at hs
           split at hs
           · rename_i hlu
             split at hs
             · cases hs
             · rename_i hlen
               split at hs
               · cases hs
               · rename_i hup
                 split at hs
                 · cases hs
                 · rename_i hkey
                   simp only [Dj,BH,true_and] at hs
                   rw [hs] at hlen hkey
                   refine ⟨b,r,rfl,?_,takeWhile_eq hs,by simpa using hlen,by simpa using hkey⟩
                   rw [Q4] at hup
                   rw [hup,M0] at hlu
                   exact hlu
           · split at hs
             · split at hs
               · cases hs
               · split at hs<;>cases hs
             · split at hs<;>cases hs
end Go.Ab
namespace Go.Ab
abbrev KT:=Int×Str
def Ni:Str→Bool
 |[]=>true
 |b::_=>[10,32,40,41,44,59].contains b
def G9 (s:Str) (ks:List KT) (rest:Str):Prop:=∀n i acc,(s++rest).length < n→∃n' i' acc',strip acc'=strip acc++ks∧rest.length < n'∧C4 n (s++rest) i acc=C4 n' rest i' acc'
def E1 (s:Str) (ks:List KT):Prop:=∀rest,Ni rest=true→G9 s ks rest
def G4 (s:Str) (ks:List KT):Prop:=∀rest,G9 s ks rest
theorem G9.trans {s1 s2:Str} {k1 k2:List KT} {rest:Str} (h1:G9 s1 k1 (s2++rest)) (h2:G9 s2 k2 rest):G9 (s1++s2) (k1++k2) rest:=fun n i acc hn=>by
 rw [AS] at hn ⊢
 obtain ⟨n1,i1,a1,e1,l1,g1⟩:=h1 n i acc hn
 obtain ⟨n2,i2,a2,e2,l2,g2⟩:=h2 n1 i1 a1 l1
 exact ⟨n2,i2,a2,by rw [e2,e1,AS],l2,by rw [g1,g2]⟩
theorem G9.nil (rest:Str):G9 [] [] rest:=fun n i acc hn=>⟨n,i,acc,by simp,hn,rfl⟩
theorem G4.s {s:Str} {ks:List KT} (h:G4 s ks):E1 s ks:=fun r _=>h r
theorem G4.nil:G4 [] []:=G9.nil
theorem G4.a {s1 s2:Str} {k1 k2:List KT} (h1:G4 s1 k1) (h2:G4 s2 k2):G4 (s1++s2) (k1++k2):=fun r=>(h1 _).trans (h2 r)
theorem G4.ss {s1 s2:Str} {k1 k2:List KT} (h1:G4 s1 k1) (h2:E1 s2 k2):E1 (s1++s2) (k1++k2):=fun r hr=>(h1 _).trans (h2 r hr)
theorem Ya {s r:Str} (h:Ni s=true) (hn:s≠[]):Ni (s++r)=true:=by
 cases s with
 |nil=>exact absurd rfl hn
 |cons b l=>exact h
theorem E1.a {s1 s2:Str} {k1 k2:List KT} (h1:E1 s1 k1) (hs:Ni s2=true) (hn:s2≠[]) (h2:G4 s2 k2):G4 (s1++s2) (k1++k2):=fun r=>(h1 _ (Ya hs hn)).trans (h2 r)
theorem E1.ss {s1 s2:Str} {k1 k2:List KT} (h1:E1 s1 k1) (hs:Ni s2=true) (h2:E1 s2 k2):E1 (s1++s2) (k1++k2):=fun r hr=>by
 by_cases hn:s2=[]
 · subst hn;exact (h1 _ hr).trans (h2 r hr)
 · exact (h1 _ (Ya hs hn)).trans (h2 r hr)
theorem Un {s rest:Str} {k:Int} (hs:CK (s++rest)= .ok (k,s)) (hb:∀b l,s=b::l→Sl b.toNat=false∧(b==35)=false):G9 s [(k,s)] rest:=fun n i acc hn=>by
 have hl:=(NG hs).1
 cases s with
 |nil=>simp at hl
 |cons b l=>
  obtain ⟨h1,h2⟩:=hb b l rfl
  cases n with
  |zero=>omega
  |succ n=>
   refine ⟨n,i+(b::l).length,acc++[⟨k,b::l,i⟩],by simp [strip],by simp at hn ⊢;omega,?_⟩
   rw [AY] at hs ⊢
   rw [C4,if_neg (by rw [h1];decide),if_neg (by rw [h2];decide),hs]
   simp only
   rw [← AY,List.drop_left]
theorem V5 {b:UInt8} (hb:Sl b.toNat=true):G4 [b] []:=fun rest n i acc hn=>by
 cases n with
 |zero=>omega
 |succ n=>exact ⟨n,i+1,acc,by simp,by simp at hn;omega,by rw [AY,A6,C4,if_pos hb]⟩
theorem IP:G4 [32] []:=V5 (by decide)
theorem qW:G4 [10] []:=V5 (by decide)
theorem Yn {p:UInt8→Bool} {s rest:Str} (h:∀x∈s,p x=true) (hr:∀b l,rest=b::l→p b=false):(s++rest).takeWhile p=s:=by
 induction s with
 |nil=>
  cases rest with
  |nil=>rfl
  |cons b l=>rw [A6,Bg,hr b l rfl];rfl
 |cons x s ih=>rw [AY,Bg,h x (Aa ..),if_pos rfl,ih (fun y hy=>h y (Ai _ hy))]
theorem sS {rest:Str} (h:Ni rest=true):∀b l,rest=b::l→Bf FH b=false:=by
 rintro b l rfl
 have:∀c∈([10,32,40,41,44,59]:Str),Bf FH c=false:=by decide
 exact this b (by simpa [Ni,Dv] using h)
theorem fC {rest:Str} (h:Ni rest=true):∀b l,rest=b::l→Bf Dt b=false:=by
 rintro b l rfl
 have:∀c∈([10,32,40,41,44,59]:Str),Bf Dt c=false:=by decide
 exact this b (by simpa [Ni,Dv] using h)
theorem Uo {b:UInt8} {r:Str} (hlu:(LC b.toNat||JX b.toNat)=true) (hw:∀x∈b::r,Bf FH x=true) (hl:(b::r).length≤24):E1 (b::r) [(if JX b.toNat then 2 else if Rs (b::r) then 4 else 1,b::r)]:=fun rest hr=>by
 refine Un ?_ (fun c l e=>?_)
 · have ht:=Yn hw (sS hr)
   rw [AY] at ht ⊢
   rw [CK,if_pos hlu,ht,if_neg (by simp only [decide_eq_true_eq];omega)]
   split
   · rfl
   · split<;>rfl
 · cases e
   simp only [LC,JX,BM,AL,decide_eq_true_eq] at hlu
   refine ⟨?_,?_⟩
   · simp only [Sl,Cw]
     refine ⟨⟨⟨?_,?_⟩,?_⟩,?_⟩<;>(apply j4;omega)
   · cases hb:(b==35) with
     |false=>rfl
     |true=>
      rw [beq_iff_eq] at hb;subst hb
      exfalso
      rcases hlu with h|h
      · have:=h.1;revert this;decide
      · have:=h.1;revert this;decide
theorem Mt {s:Str} (h:D1 s=true):E1 s [(1,s)]:=by
 obtain ⟨b,r,rfl,h1,h2,h3,h4⟩:=Xz h
 have:=Uo (b:=b) (r:=r) (by rw [h1];rfl) h2 h3
 have hu:JX b.toNat=false:=(V8 h1).2.2
 rw [hu,h4] at this
 exact this
theorem uV {s:Str} (h:Rs s=true) (b:UInt8) (r:Str) (e:s=b::r) (hl:LC b.toNat=true) (hw:∀x∈b::r,Bf FH x=true) (hn:(b::r).length≤24):E1 s [(4,s)]:=by
 subst e
 have:=Uo (b:=b) (r:=r) (by rw [hl];rfl) hw hn
 have hu:JX b.toNat=false:=(V8 hl).2.2
 rw [hu,h] at this
 exact this
theorem Tz {s:Str} (h:Rs s=true):E1 s [(4,s)]:=by
 have ha:FM.all (fun w=>match w with|[]=>false|b::r=>LC b.toNat&&(b::r).all (Bf FH)&&decide ((b::r).length≤24))=true:=by decide
 have hm:s∈FM:=by
  simp only [Rs,List.any_eq_true,beq_iff_eq] at h
  obtain ⟨x,hx,rfl⟩:=h
  exact hx
 have:=A5.1 ha s hm
 match s,this,h with
 |b::r,this,h=>
  simp only [AL,decide_eq_true_eq,A5] at this
  exact uV h b r rfl this.1.1 this.1.2 this.2
theorem dZ {s rest:Str} (h0:s∈Q1) (h1:∀b l,s=b::l→(LC b.toNat||JX b.toNat)=false∧Dt b.toNat=false∧Sl b.toNat=false∧(b==35)=false) (h2:(s++rest).take (EV (s++rest))=s):G9 s [(5,s)] rest:=by
 cases s with
 |nil=>exact absurd h0 (by decide)
 |cons b l=>
  obtain ⟨a1,a2,a3,a4⟩:=h1 b l rfl
  refine Un ?_ (fun c l' e=>by cases e;exact ⟨a3,a4⟩)
  rw [AY] at h2 ⊢
  rw [CK,if_neg (by rw [a1];decide),if_neg (by rw [a2];decide),if_neg (by rw [h2];simp),h2]
theorem G7 (s:Str) (h0:s∈Q1) (h:s≠[45]∧s≠[60]∧s≠[61]):G4 s [(5,s)]:=fun rest=>by
 have hall:∀s∈Q1,s≠[45]∧s≠[60]∧s≠[61]→(match s with|[]=>false|b::_=>!(LC b.toNat||JX b.toNat)&& !Dt b.toNat&& !Sl b.toNat&& !(b==35))=true∧((∃b,s=[b]∧PF b=1∧(b==45)=false∧(b==60)=false∧(b==61)=false)∨∃b c,s=[b,c]∧VA b c=true):=by
  intro s hs hn
  simp only [Q1,Bv,List.not_mem_nil,or_false] at hs
  rcases hs with rfl|rfl|rfl|rfl|rfl|rfl|rfl|rfl|rfl|rfl|rfl|rfl|rfl|rfl|rfl|rfl<;>first
   |exact ⟨by decide,.inr ⟨_,_,rfl,by decide⟩⟩
   |exact ⟨by decide,.inl ⟨_,rfl,by decide,by decide,by decide,by decide⟩⟩
   |exact absurd rfl hn.1
   |exact absurd rfl hn.2.1
   |exact absurd rfl hn.2.2
 obtain ⟨f1,f2⟩:=hall s h0 h
 refine dZ h0 (fun b l e=>?_) ?_
 · subst e
   simp only [AL,CP] at f1
   exact ⟨f1.1.1.1,f1.1.1.2,f1.1.2,f1.2⟩
 · rcases f2 with ⟨b,rfl,g1,g2,g3,g4⟩|⟨b,c,rfl,g⟩
   · cases rest with
     |nil=>rw [A1,EV,g1];rfl
     |cons c l=>
      have:VA b c=false:=by
       simp only [VA,Cw,List.cons_beq_cons,g2,g3,g4,FJ,and_self]
      rw [AY,A6,EV,this,if_neg (by decide),g1];rfl
   · rw [AY,AY,A6,EV,if_pos g];rfl
theorem UG (b:UInt8) (hb:b=45∨b=60∨b=61) {rest:Str} (hr:∀c l,rest=c::l→(c==61)=false∧(c==62)=false):G9 [b] [(5,[b])] rest:=by
 refine dZ (by rcases hb with rfl|rfl|rfl<;>decide) (fun c l e=>?_) ?_
 · cases e
   rcases hb with rfl|rfl|rfl<;>decide
 · cases rest with
   |nil=>rcases hb with rfl|rfl|rfl<;>rfl
   |cons c l=>
    obtain ⟨g1,g2⟩:=hr c l rfl
    have:VA b c=false:=by
     simp only [VA,Cw,List.cons_beq_cons,g1,g2,D5,FJ,and_self]
    rw [AY,A6,EV,this,if_neg (by decide)]
    rcases hb with rfl|rfl|rfl<;>rfl
theorem PJ {rest:Str} (h:Ni rest=true):∀c l,rest=c::l→(c==61)=false∧(c==62)=false:=by
 rintro b l rfl
 have:∀c∈([10,32,40,41,44,59]:Str),(c==61)=false∧(c==62)=false:=by decide
 exact this b (by simpa [Ni,Dv] using h)
end Go.Ab
namespace Go.Ab
theorem u8n {n:Nat} (h:n < 256):(UInt8.ofNat n).toNat=n:=by simp [Nat.mod_eq_of_lt h]
theorem gP:∀(n:Nat),∀x∈Lib.decDigits n,Bf Dt x=true:=by
 intro n
 induction n using Nat.strongRecOn with
 |_ n ih=>
 intro x hx
 rw [Lib.decDigits] at hx
 have hd:∀m,m < 10→Bf Dt (UInt8.ofNat (48+m))=true:=fun m hm=>by
  simp only [Bf,Dt,u8n (show 48+m < 256 by omega),AL,decide_eq_true_eq];omega
 split at hx
 · rename_i h
   rw [Ev] at hx;rw [hx];exact hd n h
 · rename_i h
   rcases BV.1 hx with hx|hx
   · exact ih (n / 10) (by omega) x hx
   · rw [Ev] at hx;rw [hx];exact hd _ (by omega)
theorem aL:∀(s t:Str) (v:Int),FC (s++t) v=(FC s v).bind (FC t)
 |[],t,v=>rfl
 |b::s,t,v=>by
  rw [AY,FC,FC]
  split
  · rfl
  · exact aL s t _
theorem pP:∀(n:Nat),n≤1000000→FC (Lib.decDigits n) 0=some (n:Int):=by
 intro n
 induction n using Nat.strongRecOn with
 |_ n ih=>
 intro hn
 have hw:∀m,m < 10→IntKind.u8.wrap (((UInt8.ofNat (48+m)).toNat:Int) - 48)=m:=fun m hm=>by
  rw [u8n (by omega)]
  have:IntKind.u8.wrap (((48+m:Nat):Int) - 48)=(((48+m:Nat):Int) - 48) % 256:=rfl
  rw [this];omega
 rw [Lib.decDigits]
 split
 · rename_i h
   rw [FC,hw n h,if_neg (by omega),FC]
   congr 1;omega
 · rename_i h
   rw [aL,ih (n / 10) (by omega) (by omega),B3,FC,hw _ (by omega),if_neg (by omega),FC]
   congr 1;omega
theorem j8:∀(n:Nat),1≤n→∃b l,Lib.decDigits n=b::l∧(b==48)=false:=by
 intro n
 induction n using Nat.strongRecOn with
 |_ n ih=>
 intro hn
 rw [Lib.decDigits]
 split
 · rename_i h
   refine ⟨_,[],rfl,?_⟩
   cases hb:(UInt8.ofNat (48+n)==48) with
   |false=>rfl
   |true=>
    rw [beq_iff_eq] at hb
    have:=congrArg UInt8.toNat hb
    rw [u8n (by omega)] at this
    have h2:(48:UInt8).toNat=48:=rfl
    omega
 · rename_i h
   obtain ⟨b,l,e,hb⟩:=ih (n / 10) (by omega) (by omega)
   exact ⟨b,l++[_],by rw [e];rfl,hb⟩
theorem vQ {n:Nat} (h:n≤1000000):Qn (Lib.decDigits n)=n:=by rw [Qn,pP n h];rfl
theorem kQ {n:Nat} (h:n≤1000000):E1 (Lib.decDigits n) [(3,Lib.decDigits n)]:=fun rest hr=>by
 have ha:=gP n
 have hv:=pP n h
 have hh:∃b l,Lib.decDigits n=b::l∧(b==48&&decide ((b::l).length>1))=false:=by
  by_cases h0:n=0
  · subst h0;exact ⟨48,[],by rw [Lib.decDigits];rfl,rfl⟩
  · obtain ⟨b,l,e,hb⟩:=j8 n (by omega)
    exact ⟨b,l,e,by rw [hb];rfl⟩
 obtain ⟨b,l,e,h48⟩:=hh
 rw [e] at ha hv ⊢
 have hd:=ha b (Aa ..)
 simp only [Bf] at hd
 have hdn:=hd
 simp only [Dt,AL,decide_eq_true_eq] at hdn
 have ht:=Yn ha (fC hr)
 refine Un ?_ (fun c l' e'=>?_)
 · rw [AY] at ht ⊢
   have hlu:¬(LC b.toNat||JX b.toNat)=true:=by
    simp only [LC,JX,BM,AL,decide_eq_true_eq];omega
   rw [CK,if_neg hlu,if_pos hd,ht,h48,if_neg (by decide),hv];rfl
 · cases e'
   refine ⟨?_,?_⟩
   · simp only [Sl,Cw]
     refine ⟨⟨⟨?_,?_⟩,?_⟩,?_⟩<;>(apply j4;omega)
   · cases hb:(b==35) with
     |false=>rfl
     |true=>
      rw [beq_iff_eq] at hb;subst hb
      exact absurd hdn.1 (by decide)
def Td (u:Int):List KT:=if u < 0 then [(5,[45]),(3,Lib.decDigits u.natAbs)] else [(3,Lib.decDigits u.toNat)]
theorem dX {u:Int} (h1: -1000000≤u) (h2:u≤1000000):E1 (Lib.itoa u) (Td u):=by
 unfold Lib.itoa Td
 split
 · rename_i h
   intro rest hr
   refine G9.trans (s1:=[45]) (k1:=[(5,[45])]) (UG 45 (.inl rfl) ?_) (kQ (by omega) rest hr)
   intro c l e
   have hall:∀x:UInt8,Bf Dt x=true→(x==61)=false∧(x==62)=false:=fun x hx=>by
    simp only [Bf,Dt,AL,decide_eq_true_eq] at hx
    constructor
    · cases hb:(x==61) with
      |false=>rfl
      |true=>rw [beq_iff_eq] at hb;subst hb;exact absurd hx.2 (by decide)
    · cases hb:(x==62) with
      |false=>rfl
      |true=>rw [beq_iff_eq] at hb;subst hb;exact absurd hx.2 (by decide)
   obtain ⟨b,l2,e2⟩:∃b l2,Lib.decDigits u.natAbs=b::l2:=by
    obtain ⟨b,l2,e2,_⟩:=j8 u.natAbs (by omega)
    exact ⟨b,l2,e2⟩
   have hb:=hall b (gP u.natAbs b (by rw [e2];exact Aa ..))
   rw [e2] at e
   cases e
   exact hb
 · exact kQ (by omega)
theorem Vs {s:Str} (h:upperB s=true):∃b r,s=b::r∧JX b.toNat=true∧(∀x∈b::r,Bf FH x=true)∧(b::r).length≤24:=by
 rw [upperB,GH] at h
 simp only [AL,beq_iff_eq] at h
 obtain ⟨h0,h1,h2⟩:=h
 rw [Am] at h0 h1 h2
 split at h0
 · cases h0
 · rename_i hle
   rw [if_neg hle] at h1 h2
   match s,h0,h1,h2 with
   |[],_,h1,_=>simp [C4] at h1
   |b::r,h0,h1,h2=>
    rw [show (b::r).length+1=(r.length+1)+1 from rfl] at h0 h1 h2
    rw [C4] at h0 h1 h2
    have hsm:∀(n:Nat) (rest:Str) (i:Nat),rest.length < (b::r).length→(C4 n rest i []).2.2=0→(C4 n rest i []).1.length=2→(match (C4 n rest i []).1 with|[]=>false|a::_=>a.kind==2&&a.text==b::r)=true→False:=by
     intro n rest i hlt g0 g1 g2
     rcases KQ n rest i [] g0 with h|⟨tl,h,hm⟩
     · rw [h] at g1;cases g1
     · rw [h,A6] at g1 g2
       cases tl with
       |nil=>cases g1
       |cons a tl=>
        simp only [AL,beq_iff_eq] at g2
        have:=hm a (Aa ..)
        rw [g2.2] at this
        omega
    split at h0
    · rename_i hb
      rw [if_pos hb] at h1 h2
      exact (hsm _ _ _ (by simp) h0 h1 h2).elim
    · rename_i hb
      rw [if_neg hb] at h1 h2
      split at h0
      · rename_i hc
        rw [if_pos hc] at h1 h2
        refine (hsm _ _ _ ?_ h0 h1 h2).elim
        rw [beq_iff_eq] at hc
        subst hc
        have:1≤cmt (35::r):=by simp [cmt]
        rw [Ag];simp only [AD];omega
      · rename_i hc
        rw [if_neg hc] at h1 h2
        cases hs:CK (b::r) with
        |error e=>
         rw [hs] at h0
         rcases NF hs with rfl|rfl<;>cases h0
        |ok x=>
         obtain ⟨k,t⟩:=x
         rw [hs] at h0 h1 h2
         rcases KQ _ _ _ _ h0 with h|⟨tl,h,hm⟩
         · rw [h] at h1;cases h1
         · rw [h] at h2
           replace h2:(k==2&&t==b::r)=true:=h2
           rw [AL,beq_iff_eq,beq_iff_eq] at h2
           obtain ⟨rfl,rfl⟩:=h2
           rw [CK] at hs
           split at hs
           · split at hs
             · cases hs
             · rename_i hlen
               split at hs
               · rename_i hup
                 simp only [Dj,BH,true_and] at hs
                 rw [hs] at hlen
                 exact ⟨b,r,rfl,hup,takeWhile_eq hs,by simpa using hlen⟩
               · split at hs<;>cases hs
           · split at hs
             · split at hs
               · cases hs
               · split at hs<;>cases hs
             · split at hs<;>cases hs
theorem Oe {s:Str} (h:upperB s=true):E1 s [(2,s)]:=by
 obtain ⟨b,r,rfl,h1,h2,h3⟩:=Vs h
 have:=Uo (b:=b) (r:=r) (by rw [h1,ON]) h2 h3
 rw [h1,if_pos rfl] at this
 exact this
def shK (s:Str):List KT:=if s=[] then [(5,[95])] else [(1,s)]
theorem V7 {s:Str} (h:GK s=true):E1 (shown s) (shK s):=by
 unfold shown shK
 split
 · exact (G7 [95] (by decide) (by decide)).s
 · rename_i hs
   simp only [GK,BM,beq_iff_eq] at h
   rcases h with h|h
   · exact absurd h hs
   · exact Mt h
def cmK (l:List (List KT)):List KT:=[(5,[44])].intercalate l
def Hu (k:List KT):List KT:=(5,[40])::(k++[(5,[41])])
def Ut (l:List (List KT)):List KT:=if l=[] then [] else Hu (cmK l)
def L7 (l:List (List KT)):List KT:=Hu (cmK l)
theorem kG {α:Type} (sep x:List α):sep.intercalate [x]=x:=by simp [List.intercalate]
theorem bF {α:Type} (sep x y:List α) (l:List (List α)):sep.intercalate (x::y::l)=x++(sep++sep.intercalate (y::l)):=by
 simp [List.intercalate,List.intersperse]
theorem Uk {α:Type} {sep:Str} {ks:List KT} (hs:G4 sep ks) (hst:Ni sep=true) (hne:sep≠[]) (f:α→Str) (g:α→List KT):∀l:List α,(∀x∈l,E1 (f x) (g x))→E1 (Lib.join (l.map f) sep) (ks.intercalate (l.map g))
 |[],_=>G4.nil.s
 |[x],h=>by
  simp only [Lib.join,AF,AI,kG]
  exact h x (Aa ..)
 |x::y::l,h=>by
  have ih:=Uk hs hst hne f g (y::l) (fun z hz=>h z (Ai _ hz))
  simp only [Lib.join,AF,bF] at ih ⊢
  exact (h x (Aa ..)).ss (Ya hst hne) (hs.ss ih)
theorem nI:G4 [44,32] [(5,[44])]:=(G7 [44] (by decide) (by decide)).a IP
theorem qV:G4 [40] [(5,[40])]:=G7 _ (by decide) (by decide)
theorem q6:G4 [41] [(5,[41])]:=G7 _ (by decide) (by decide)
theorem Um {s:Str} {k:List KT} (h:E1 s k):G4 (JT s) (Hu k):=qV.a (h.a rfl (by decide) q6)
theorem kN {α:Type} (f:α→Str) (g:α→List KT) (l:List α) (h:∀x∈l,E1 (f x) (g x)):E1 (cms (l.map f)) (cmK (l.map g)):=Uk nI rfl (by decide) f g l h
theorem S9 {α:Type} (f:α→Str) (g:α→List KT) (l:List α) (h:∀x∈l,E1 (f x) (g x)):G4 (Ik (l.map f)) (Ut (l.map g)):=by
 unfold Ik Ut
 cases l with
 |nil=>exact G4.nil
 |cons x l=>exact Um (kN f g (x::l) h)
theorem Ul {α:Type} (f:α→Str) (g:α→List KT) (l:List α) (h:∀x∈l,E1 (f x) (g x)):G4 (Ij (l.map f)) (L7 (l.map g)):=Um (kN f g l h)
theorem NH (l:List Str) {r:Str} (hr:Ni r=true):Ni (Ik l++r)=true:=by
 unfold Ik;split
 · exact hr
 · rfl
theorem S8:G4 [32,45,62,32] [(5,[45,62])]:=IP.a ((G7 [45,62] (by decide) (by decide)).a IP)
theorem bM:G4 [32,61,32] [(5,[61])]:=IP.a (fun rest=>(UG 61 (.inr (.inr rfl)) (PJ (rest:=32::rest) rfl)).trans (IP rest))
theorem V6 {s:Str} (h:Rs s=true):G4 (32::(s++[32])) [(4,s)]:=IP.a ((Tz h).a rfl (by decide) IP)
theorem Po {s:Str} (h:Rs s=true):G4 (s++[32]) [(4,s)]:=(Tz h).a rfl (by decide) IP
theorem kO {s:Str} (h:Rs s=true):E1 (32::s) [(4,s)]:=IP.ss (Tz h)
end Go.Ab
