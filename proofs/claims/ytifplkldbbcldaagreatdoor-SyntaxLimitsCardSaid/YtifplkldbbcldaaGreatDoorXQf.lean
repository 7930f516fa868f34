/- Texts of programs in plain data. Names as tokens, in plain data. The tokens of formatted texts, in plain data: the pieces. The tokens of formatted texts, in plain data: types, expressions, programs. Conditions: none. -/
import Derived.Lib.ItoaNum
import Derived.Lib.Join
import Derived.Test.YtifplkldbbcldaaGreatDoorXQa
set_option linter.unusedSimpArgs false
set_option linter.unusedVariables false
set_option maxRecDepth 4000
set_option maxHeartbeats 8000000
open Option renaming bind_eq_bind→AS,bind_eq_some_iff→AB,bind_some→BZ
open List renaming mem_cons→CK,mem_cons_self→Aa,mem_cons_of_mem→Ah,takeWhile_cons→FT,length_cons→AD,length_drop→Ai,nil_append→A3,append_assoc→AT,cons_append→A0,contains_eq_mem→Dl,all_eq_true→A6,append_nil→AY,mem_singleton→Di,mem_append→BS,map_cons→AF,map_nil→AI
open Bool renaming and_eq_true→AM,or_eq_false_iff→Dk,not_eq_true→QW,or_false→MZ,or_eq_true→BR,not_eq_true'→CJ,false_and→EU,and_false→DZ,or_true→OJ
open Except.ok renaming injEq→Gb
open Prod.mk renaming injEq→B2
namespace Go.Ab
mutual
def Ex.nb:Ex→Prop
 | .mk o n u ns ks al=>GM o n u ns ks.length al=true∧Ex.nbs ks∧Al.nbs al
def Ex.nbs:List Ex→Prop
 |[]=>True
 |t::l=>t.nb∧Ex.nbs l
def Al.nb:Al→Prop
 | .mk _ _ b=>b.nb
def Al.nbs:List Al→Prop
 |[]=>True
 |t::l=>t.nb∧Al.nbs l
end
theorem Ex.Nb:∀ {l:List Ex},Ex.nbs l↔∀t∈l,t.nb
 |[]=>by simp [Ex.nbs]
 |t::l=>by simp [Ex.nbs,Ex.Nb (l:=l)]
theorem Al.Nb:∀ {l:List Al},Al.nbs l↔∀t∈l,t.nb
 |[]=>by simp [Al.nbs]
 |t::l=>by simp [Al.nbs,Al.Nb (l:=l)]
theorem OV {α:Type} {f:Nat→α→Option Nat} {Q:α→Prop}:∀(l:List α) (q r:Nat),(∀x∈l,∀a b,f a x=some b→Q x)→l.foldlM f q=some r→∀x∈l,Q x
 |[],_,_,_,_,x,hx=>by cases hx
 |y::l,q,r,hf,h,x,hx=>by
  rw [List.foldlM_cons,AS,AB] at h
  obtain ⟨b,hb,h⟩:=h
  rcases CK.1 hx with rfl|hx
  · exact hf _ (Aa ..) q b hb
  · exact OV l b r (fun z hz=>hf z (Ah _ hz)) h x hx
theorem bX:∀(d q:Nat) (e:Ex) (r:Nat),vEx d q e=some r→e.nb
 |0,q,.mk ..,r,h=>by simp [vEx] at h
 |d+1,0,.mk ..,r,h=>by cases h
 |d+1,q+1,.mk o n u ns ks al,r,h=>by
  simp only [vEx] at h
  split at h
  · rename_i hn
    rw [AB] at h
    obtain ⟨c,hc,h⟩:=h
    rw [Ex.nb,Ex.Nb,Al.Nb]
    refine ⟨hn,OV ks q c (fun x _ a b hab=>bX d a x b hab) hc,OV al c r (fun x _ a b hab=>?_) h⟩
    obtain ⟨cc,vs,bd⟩:=x
    rw [Al.nb]
    exact bX d a bd b hab
  · cases h
def cms (l:List Str):Str:=Lib.join l [44,32]
def JH (s:Str):Str:=40::(s++[41])
def Ia (l:List Str):Str:=if l=[] then [] else JH (cms l)
def I9 (l:List Str):Str:=JH (cms l)
def shown (s:Str):Str:=if s=[] then [95] else s
def at0 (l:List Str) (i:Nat):Str:=l.getD i []
def tyN (k:Int) (n:Str) (ts:List Str):Str:=
 if k=1 then [105,110,116] else if k=2 then [98,111,111,108] else if k=3 then [117,110,105,116]
  else if k=7 then [97,114,114,97,121]++Ia ts else if k=8 then [114,101,102]++Ia ts
  else if k=9 then [102,110]++(I9 ts.dropLast++([32,45,62,32]++ts.getLastD []))
  else n++Ia ts
mutual
def Co:TE→Str
 | .mk k n l=>tyN k n (aG l)
def aG:List TE→List Str
 |[]=>[]
 |t::l=>Co t::aG l
end
theorem P1:∀l:List TE,aG l=l.map Co
 |[]=>rfl
 |t::l=>by rw [aG,P1 l];rfl
def E7 (u:Int):Nat:=if u=1∨u=2 then 2 else if u=3∨u=4∨u=5 then 3 else 1
def lvl:Ex→Nat
 | .mk o _ u _ _ _=>if o=7∨o=8∨o=9∨o=10∨o=11∨o=17 then 0 else if o=13 then E7 u else if o=12 then 4 else 5
def pl (d:Nat) (k:Ex) (t:Str):Str:=if lvl k < d then JH t else t
def opT (u:Int):Str:=Uh u.toNat
def prT (u:Int):Str:=if u=1 then [110,101,119] else if u=2 then [103,101,116] else if u=3 then [115,101,116] else if u=4 then [108,101,110] else if u=5 then [114,101,102] else if u=6 then [114,101,97,100] else [119,114,105,116,101]
def M2:Ex→Bool
 | .mk o _ _ _ ks _=>o==6&&ks.isEmpty
def w8 (ks:List Ex) (ts:List Str):Str:=match ks with
 |[]=>I9 ts.tail
 |k::_=>(if M2 k then JH (at0 ts 0) else pl 4 k (at0 ts 0))++I9 ts.tail
def xC (u:Int) (ks:List Ex) (ts:List Str):Str:=match ks with
 |[a,b]=>pl (if E7 u=1 then 2 else E7 u) a (at0 ts 0)++(32::(opT u++(32::pl (if E7 u=1 then 2 else E7 u+1) b (at0 ts 1))))
 |_=>[]
def PW (o:Int) (n:Str) (u:Int) (ns:List Str) (ks:List Ex) (ts:List Str) (as':List Str):Str:=
 if o=7 then [108,101,116,32]++(shown n++([32,61,32]++(at0 ts 0++([32,105,110,32]++at0 ts 1))))
                                                                   else if o=8 then [108,101,116,32]++(Ia (ns.map shown)++([32,61,32]++(at0 ts 0++([32,105,110,32]++at0 ts 1))))
                                                                   else if o=9 then [105,102,32]++(at0 ts 0++([32,116,104,101,110,32]++(at0 ts 1++([32,101,108,115,101,32]++at0 ts 2))))
                                                                   else if o=10 then [109,97,116,99,104,32]++(at0 ts 0++([32,119,105,116,104,32]++(Lib.join as' [32,124,32]++[32,101,110,100])))
                                                                   else if o=11 then [102,110]++(I9 ns++([32,45,62,32]++at0 ts 0))
                                                                   else if o=17 then [116,114,121,32]++(at0 ts 0++([32,99,97,116,99,104,32]++(shown n++([32,45,62,32]++(at0 ts 1++[32,101,110,100])))))
                                                                   else if o=13 then xC u ks ts
                                                                   else if o=12 then w8 ks ts
                                                                   else if o=1 then [40,41]
                                                                   else if o=2 then (if u=1 then [116,114,117,101] else [102,97,108,115,101])
                                                                   else if o=3 then Lib.itoa u
                                                                   else if o=5 then I9 ts
                                                                   else if o=14 then prT u++I9 ts
                                                                   else if o=16 then [114,97,105,115,101]++I9 ts
                                                                   else if o=15 then [116,105,99,107]++JH (Lib.itoa u)
                                                                   else n++Ia ts
def alT (c:Str) (vs:List Str) (b:Str):Str:=c++(Ia (vs.map shown)++([32,45,62,32]++b))
mutual
def Ay:Ex→Str
 | .mk o n u ns ks al=>PW o n u ns ks (Vn ks) (Jd al)
def Vn:List Ex→List Str
 |[]=>[]
 |t::l=>Ay t::Vn l
def Mg:Al→Str
 | .mk c vs b=>alT c vs (Ay b)
def Jd:List Al→List Str
 |[]=>[]
 |t::l=>Mg t::Jd l
end
theorem MW:∀l:List Ex,Vn l=l.map Ay
 |[]=>rfl
 |t::l=>by rw [Vn,MW l];rfl
theorem VG:∀l:List Al,Jd l=l.map Mg
 |[]=>rfl
 |t::l=>by rw [Jd,VG l];rfl
def fmtC (c:CE):Str:=c.name++Ia (c.args.map Co)
def Th (d:DE):Str:=[100,97,116,97,32]++(d.name++(Ia d.vars++([32,61,32]++(Lib.join (d.cons.map fmtC) [32,124,32]++[59,10]))))
def VH (f:FE):Str:=[102,117,110,32]++(f.name++(I9 f.params++([32,61,32]++(Ay f.body++[59,10]))))
def Ys (p:Pg):Str:=(p.data.map Th).flatten++(p.RX.map VH).flatten
end Go.Ab
namespace Go.Ab
theorem oP {a b:Int} (h:a≠b):(a==b)=false:=by simpa using h
def yI (s:Str):Prop:=∃b r,s=b::r∧MM b.toNat=true∧(∀x∈s,CH GC x=true)∧s.length≤24∧Ro s=false
theorem takeWhile_eq {α:Type} {p:α→Bool}:∀ {l:List α},l.takeWhile p=l→∀x∈l,p x=true
 |[],_,x,hx=>by cases hx
 |y::l,h,x,hx=>by
  rw [FT] at h
  split at h
  · rename_i hy
    rcases CK.1 hx with rfl|hx
    · exact hy
    · exact takeWhile_eq (by simpa using h) x hx
  · cases h
theorem VT {b:UInt8} (h:MM b.toNat=true):T9 b.toNat=false∧(b==35)=false∧KM b.toNat=false:=by
 simp only [MM,AM,decide_eq_true_eq] at h
 refine ⟨?_,?_,?_⟩
 · simp only [T9,Dk]
   refine ⟨⟨⟨?_,?_⟩,?_⟩,?_⟩<;>(apply oP;omega)
 · cases hb:(b==35) with
   |false=>rfl
   |true=>
    rw [beq_iff_eq] at hb;subst hb
    have:=h.1
    exact absurd this (by decide)
 · simp only [KM,Bool.and_eq_false_iff,decide_eq_false_iff_not];omega
theorem KI:∀(n:Nat) (rest:Str) (i:Nat) (acc:List Tok),(DW n rest i acc).2.2=0→(DW n rest i acc).1=[]∨∃tl,(DW n rest i acc).1=acc++tl∧∀t∈tl,t.text.length≤rest.length
 |0,rest,i,acc,_=>.inl rfl
 |n+1,[],i,acc,_=>.inr ⟨[⟨6,[],i⟩],rfl,fun t ht=>by simp at ht;simp [ht]⟩
 |n+1,b::r,i,acc,h=>by
  rw [DW] at h ⊢
  split at h
  · rename_i hb
    rw [if_pos hb]
    rcases KI n r (i+1) acc h with h|⟨tl,h1,h2⟩
    · exact .inl h
    · exact .inr ⟨tl,h1,fun t ht=>by have:=h2 t ht;simp only [AD];omega⟩
  · rename_i hb
    rw [if_neg hb]
    split at h
    · rename_i hc
      rw [if_pos hc]
      rcases KI n _ _ acc h with h|⟨tl,h1,h2⟩
      · exact .inl h
      · exact .inr ⟨tl,h1,fun t ht=>by have:=h2 t ht;rw [Ai] at this;omega⟩
    · rename_i hc
      rw [if_neg hc]
      cases hs:D0 (b::r) with
      |error e=>
       rw [hs] at h
       simp only at h
       rcases Ox hs with rfl|rfl<;>cases h
      |ok x=>
       obtain ⟨k,t⟩:=x
       rw [hs] at h
       simp only at h ⊢
       rcases KI n _ _ _ h with h|⟨tl,h1,h2⟩
       · exact .inl h
       · refine .inr ⟨⟨k,t,i⟩::tl,by rw [h1];simp,fun u hu=>?_⟩
         rcases CK.1 hu with rfl|hu
         · exact (Oy hs).2
         · have:=h2 u hu;rw [Ai] at this;omega
theorem Xo {s:Str} (h:DU s=true):yI s:=by
 rw [DU,GB] at h
 simp only [AM,beq_iff_eq] at h
 obtain ⟨h0,h1,h2⟩:=h
 rw [BG] at h0 h1 h2
 split at h0
 · cases h0
 · rename_i hle
   rw [if_neg hle] at h1 h2
   match s,h0,h1,h2 with
   |[],_,h1,_=>simp [DW] at h1
   |b::r,h0,h1,h2=>
    rw [show (b::r).length+1=(r.length+1)+1 from rfl] at h0 h1 h2
    rw [DW] at h0 h1 h2
    have hsm:∀(n:Nat) (rest:Str) (i:Nat),rest.length < (b::r).length→(DW n rest i []).2.2=0→(DW n rest i []).1.length=2→(match (DW n rest i []).1 with|[]=>false|a::_=>decide (a.kind=1)&&decide (a.text=b::r))=true→False:=by
     intro n rest i hlt g0 g1 g2
     rcases KI n rest i [] g0 with h|⟨tl,h,hm⟩
     · rw [h] at g1;cases g1
     · rw [h,A3] at g1 g2
       cases tl with
       |nil=>cases g1
       |cons a tl=>
        simp only [AM,decide_eq_true_eq] at g2
        have:=hm a (Aa ..)
        rw [g2.2] at this
        omega
    have hcv:∀(l:List Tok),(match l with|[]=>false|a::_=>a.kind==1&&a.text==b::r)=true→(match l with|[]=>false|a::_=>decide (a.kind=1)&&decide (a.text=b::r))=true:=by
     intro l hl
     cases l with
     |nil=>cases hl
     |cons a l=>simpa using hl
    split at h0
    · rename_i hb
      rw [if_pos hb] at h1 h2
      exact (hsm _ _ _ (by simp) h0 h1 (hcv _ h2)).elim
    · rename_i hb
      rw [if_neg hb] at h1 h2
      split at h0
      · rename_i hc
        rw [if_pos hc] at h1 h2
        refine (hsm _ _ _ ?_ h0 h1 (hcv _ h2)).elim
        rw [beq_iff_eq] at hc
        subst hc
        have:1≤cmt (35::r):=by simp [cmt]
        rw [Ai];simp only [AD];omega
      · rename_i hc
        rw [if_neg hc] at h1 h2
        cases hs:D0 (b::r) with
        |error e=>
         rw [hs] at h0
         rcases Ox hs with rfl|rfl<;>cases h0
        |ok x=>
         obtain ⟨k,t⟩:=x
         rw [hs] at h0 h1 h2
         rcases KI _ _ _ _ h0 with h|⟨tl,h,hm⟩
         · rw [h] at h1;cases h1
         · rw [h] at h2
           replace h2:(k==1&&t==b::r)=true:=h2
           rw [AM,beq_iff_eq,beq_iff_eq] at h2
           obtain ⟨rfl,rfl⟩:=h2
           rw [D0] at hs
           split at hs
           · rename_i hlu
             split at hs
             · cases hs
             · rename_i hlen
               split at hs
               · cases hs
               · rename_i hup
                 split at hs
                 · cases hs
                 · rename_i hkey
                   simp only [Gb,B2,true_and] at hs
                   rw [hs] at hlen hkey
                   refine ⟨b,r,rfl,?_,takeWhile_eq hs,by simpa using hlen,by simpa using hkey⟩
                   rw [QW] at hup
                   rw [hup,MZ] at hlu
                   exact hlu
           · split at hs
             · split at hs
               · cases hs
               · split at hs<;>cases hs
             · split at hs<;>cases hs
end Go.Ab
namespace Go.Ab
abbrev KT:=Int×Str
def Nf:Str→Bool
 |[]=>true
 |b::_=>[10,32,40,41,44,59].contains b
def OM (s:Str) (ks:List KT) (rest:Str):Prop:=∀n i acc,(s++rest).length < n→∃n' i' acc',strip acc'=strip acc++ks∧rest.length < n'∧DW n (s++rest) i acc=DW n' rest i' acc'
def Et (s:Str) (ks:List KT):Prop:=∀rest,Nf rest=true→OM s ks rest
def GZ (s:Str) (ks:List KT):Prop:=∀rest,OM s ks rest
theorem OM.trans {s1 s2:Str} {k1 k2:List KT} {rest:Str} (h1:OM s1 k1 (s2++rest)) (h2:OM s2 k2 rest):OM (s1++s2) (k1++k2) rest:=fun n i acc hn=>by
 rw [AT] at hn ⊢
 obtain ⟨n1,i1,a1,e1,l1,g1⟩:=h1 n i acc hn
 obtain ⟨n2,i2,a2,e2,l2,g2⟩:=h2 n1 i1 a1 l1
 exact ⟨n2,i2,a2,by rw [e2,e1,AT],l2,by rw [g1,g2]⟩
theorem OM.nil (rest:Str):OM [] [] rest:=fun n i acc hn=>⟨n,i,acc,by simp,hn,rfl⟩
theorem GZ.s {s:Str} {ks:List KT} (h:GZ s ks):Et s ks:=fun r _=>h r
theorem GZ.nil:GZ [] []:=OM.nil
theorem GZ.a {s1 s2:Str} {k1 k2:List KT} (h1:GZ s1 k1) (h2:GZ s2 k2):GZ (s1++s2) (k1++k2):=fun r=>(h1 _).trans (h2 r)
theorem GZ.ss {s1 s2:Str} {k1 k2:List KT} (h1:GZ s1 k1) (h2:Et s2 k2):Et (s1++s2) (k1++k2):=fun r hr=>(h1 _).trans (h2 r hr)
theorem YY {s r:Str} (h:Nf s=true) (hn:s≠[]):Nf (s++r)=true:=by
 cases s with
 |nil=>exact absurd rfl hn
 |cons b l=>exact h
theorem Et.a {s1 s2:Str} {k1 k2:List KT} (h1:Et s1 k1) (hs:Nf s2=true) (hn:s2≠[]) (h2:GZ s2 k2):GZ (s1++s2) (k1++k2):=fun r=>(h1 _ (YY hs hn)).trans (h2 r)
theorem Et.ss {s1 s2:Str} {k1 k2:List KT} (h1:Et s1 k1) (hs:Nf s2=true) (h2:Et s2 k2):Et (s1++s2) (k1++k2):=fun r hr=>by
 by_cases hn:s2=[]
 · subst hn;exact (h1 _ hr).trans (h2 r hr)
 · exact (h1 _ (YY hs hn)).trans (h2 r hr)
theorem aZ {s rest:Str} {k:Int} (hs:D0 (s++rest)= .ok (k,s)) (hb:∀b l,s=b::l→T9 b.toNat=false∧(b==35)=false):OM s [(k,s)] rest:=fun n i acc hn=>by
 have hl:=(Oy hs).1
 cases s with
 |nil=>simp at hl
 |cons b l=>
  obtain ⟨h1,h2⟩:=hb b l rfl
  cases n with
  |zero=>omega
  |succ n=>
   refine ⟨n,i+(b::l).length,acc++[⟨k,b::l,i⟩],by simp [strip],by simp at hn ⊢;omega,?_⟩
   rw [A0] at hs ⊢
   rw [DW,if_neg (by rw [h1];decide),if_neg (by rw [h2];decide),hs]
   simp only
   rw [← A0,List.drop_left]
theorem Z9 {b:UInt8} (hb:T9 b.toNat=true):GZ [b] []:=fun rest n i acc hn=>by
 cases n with
 |zero=>omega
 |succ n=>exact ⟨n,i+1,acc,by simp,by simp at hn;omega,by rw [A0,A3,DW,if_pos hb]⟩
theorem IF:GZ [32] []:=Z9 (by decide)
theorem yC:GZ [10] []:=Z9 (by decide)
theorem bV {p:UInt8→Bool} {s rest:Str} (h:∀x∈s,p x=true) (hr:∀b l,rest=b::l→p b=false):(s++rest).takeWhile p=s:=by
 induction s with
 |nil=>
  cases rest with
  |nil=>rfl
  |cons b l=>rw [A3,FT,hr b l rfl];rfl
 |cons x s ih=>rw [A0,FT,h x (Aa ..),if_pos rfl,ih (fun y hy=>h y (Ah _ hy))]
theorem rW {rest:Str} (h:Nf rest=true):∀b l,rest=b::l→CH GC b=false:=by
 rintro b l rfl
 have:∀c∈([10,32,40,41,44,59]:Str),CH GC c=false:=by decide
 exact this b (by simpa [Nf,Dl] using h)
theorem rV {rest:Str} (h:Nf rest=true):∀b l,rest=b::l→CH Ec b=false:=by
 rintro b l rfl
 have:∀c∈([10,32,40,41,44,59]:Str),CH Ec c=false:=by decide
 exact this b (by simpa [Nf,Dl] using h)
theorem Xm {b:UInt8} {r:Str} (hlu:(MM b.toNat||KM b.toNat)=true) (hw:∀x∈b::r,CH GC x=true) (hl:(b::r).length≤24):Et (b::r) [(if KM b.toNat then 2 else if Ro (b::r) then 4 else 1,b::r)]:=fun rest hr=>by
 refine aZ ?_ (fun c l e=>?_)
 · have ht:=bV hw (rW hr)
   rw [A0] at ht ⊢
   rw [D0,if_pos hlu,ht,if_neg (by simp only [decide_eq_true_eq];omega)]
   split
   · rfl
   · split<;>rfl
 · cases e
   simp only [MM,KM,BR,AM,decide_eq_true_eq] at hlu
   refine ⟨?_,?_⟩
   · simp only [T9,Dk]
     refine ⟨⟨⟨?_,?_⟩,?_⟩,?_⟩<;>(apply oP;omega)
   · cases hb:(b==35) with
     |false=>rfl
     |true=>
      rw [beq_iff_eq] at hb;subst hb
      exfalso
      rcases hlu with h|h
      · have:=h.1;revert this;decide
      · have:=h.1;revert this;decide
theorem Ms {s:Str} (h:DU s=true):Et s [(1,s)]:=by
 obtain ⟨b,r,rfl,h1,h2,h3,h4⟩:=Xo h
 have:=Xm (b:=b) (r:=r) (by rw [h1];rfl) h2 h3
 have hu:KM b.toNat=false:=(VT h1).2.2
 rw [hu,h4] at this
 exact this
theorem tT {s:Str} (h:Ro s=true) (b:UInt8) (r:Str) (e:s=b::r) (hl:MM b.toNat=true) (hw:∀x∈b::r,CH GC x=true) (hn:(b::r).length≤24):Et s [(4,s)]:=by
 subst e
 have:=Xm (b:=b) (r:=r) (by rw [hl];rfl) hw hn
 have hu:KM b.toNat=false:=(VT hl).2.2
 rw [hu,h] at this
 exact this
theorem Tn {s:Str} (h:Ro s=true):Et s [(4,s)]:=by
 have ha:FB.all (fun w=>match w with|[]=>false|b::r=>MM b.toNat&&(b::r).all (CH GC)&&decide ((b::r).length≤24))=true:=by decide
 have hm:s∈FB:=by
  simp only [Ro,List.any_eq_true,beq_iff_eq] at h
  obtain ⟨x,hx,rfl⟩:=h
  exact hx
 have:=A6.1 ha s hm
 match s,this,h with
 |b::r,this,h=>
  simp only [AM,decide_eq_true_eq,A6] at this
  exact tT h b r rfl this.1.1 this.1.2 this.2
theorem dP {s rest:Str} (h0:s∈T2) (h1:∀b l,s=b::l→(MM b.toNat||KM b.toNat)=false∧Ec b.toNat=false∧T9 b.toNat=false∧(b==35)=false) (h2:(s++rest).take (Fp (s++rest))=s):OM s [(5,s)] rest:=by
 cases s with
 |nil=>exact absurd h0 (by decide)
 |cons b l=>
  obtain ⟨a1,a2,a3,a4⟩:=h1 b l rfl
  refine aZ ?_ (fun c l' e=>by cases e;exact ⟨a3,a4⟩)
  rw [A0] at h2 ⊢
  rw [D0,if_neg (by rw [a1];decide),if_neg (by rw [a2];decide),if_neg (by rw [h2];simp),h2]
theorem JN (s:Str) (h0:s∈T2) (h:s≠[45]∧s≠[60]∧s≠[61]):GZ s [(5,s)]:=fun rest=>by
 have hall:∀s∈T2,s≠[45]∧s≠[60]∧s≠[61]→(match s with|[]=>false|b::_=>!(MM b.toNat||KM b.toNat)&& !Ec b.toNat&& !T9 b.toNat&& !(b==35))=true∧((∃b,s=[b]∧ZJ b=1∧(b==45)=false∧(b==60)=false∧(b==61)=false)∨∃b c,s=[b,c]∧ZK b c=true):=by
  intro s hs hn
  simp only [T2,CK,List.not_mem_nil,or_false] at hs
  rcases hs with rfl|rfl|rfl|rfl|rfl|rfl|rfl|rfl|rfl|rfl|rfl|rfl|rfl|rfl|rfl|rfl<;>first
   |exact ⟨by decide,.inr ⟨_,_,rfl,by decide⟩⟩
   |exact ⟨by decide,.inl ⟨_,rfl,by decide,by decide,by decide,by decide⟩⟩
   |exact absurd rfl hn.1
   |exact absurd rfl hn.2.1
   |exact absurd rfl hn.2.2
 obtain ⟨f1,f2⟩:=hall s h0 h
 refine dP h0 (fun b l e=>?_) ?_
 · subst e
   simp only [AM,CJ] at f1
   exact ⟨f1.1.1.1,f1.1.1.2,f1.1.2,f1.2⟩
 · rcases f2 with ⟨b,rfl,g1,g2,g3,g4⟩|⟨b,c,rfl,g⟩
   · cases rest with
     |nil=>rw [AY,Fp,g1];rfl
     |cons c l=>
      have:ZK b c=false:=by
       simp only [ZK,Dk,List.cons_beq_cons,g2,g3,g4,EU,and_self]
      rw [A0,A3,Fp,this,if_neg (by decide),g1];rfl
   · rw [A0,A0,A3,Fp,if_pos g];rfl
theorem bQ (b:UInt8) (hb:b=45∨b=60∨b=61) {rest:Str} (hr:∀c l,rest=c::l→(c==61)=false∧(c==62)=false):OM [b] [(5,[b])] rest:=by
 refine dP (by rcases hb with rfl|rfl|rfl<;>decide) (fun c l e=>?_) ?_
 · cases e
   rcases hb with rfl|rfl|rfl<;>decide
 · cases rest with
   |nil=>rcases hb with rfl|rfl|rfl<;>rfl
   |cons c l=>
    obtain ⟨g1,g2⟩:=hr c l rfl
    have:ZK b c=false:=by
     simp only [ZK,Dk,List.cons_beq_cons,g1,g2,DZ,EU,and_self]
    rw [A0,A3,Fp,this,if_neg (by decide)]
    rcases hb with rfl|rfl|rfl<;>rfl
theorem YZ {rest:Str} (h:Nf rest=true):∀c l,rest=c::l→(c==61)=false∧(c==62)=false:=by
 rintro b l rfl
 have:∀c∈([10,32,40,41,44,59]:Str),(c==61)=false∧(c==62)=false:=by decide
 exact this b (by simpa [Nf,Dl] using h)
end Go.Ab
namespace Go.Ab
theorem u8n {n:Nat} (h:n < 256):(UInt8.ofNat n).toNat=n:=by simp [Nat.mod_eq_of_lt h]
theorem gD:∀(n:Nat),∀x∈Lib.decDigits n,CH Ec x=true:=by
 intro n
 induction n using Nat.strongRecOn with
 |_ n ih=>
 intro x hx
 rw [Lib.decDigits] at hx
 have hd:∀m,m < 10→CH Ec (UInt8.ofNat (48+m))=true:=fun m hm=>by
  simp only [CH,Ec,u8n (show 48+m < 256 by omega),AM,decide_eq_true_eq];omega
 split at hx
 · rename_i h
   rw [Di] at hx;rw [hx];exact hd n h
 · rename_i h
   rcases BS.1 hx with hx|hx
   · exact ih (n / 10) (by omega) x hx
   · rw [Di] at hx;rw [hx];exact hd _ (by omega)
theorem Zt:∀(s t:Str) (v:Int),Es (s++t) v=(Es s v).bind (Es t)
 |[],t,v=>rfl
 |b::s,t,v=>by
  rw [A0,Es,Es]
  split
  · rfl
  · exact Zt s t _
theorem pA:∀(n:Nat),n≤1000000→Es (Lib.decDigits n) 0=some (n:Int):=by
 intro n
 induction n using Nat.strongRecOn with
 |_ n ih=>
 intro hn
 have hw:∀m,m < 10→IntKind.u8.wrap (((UInt8.ofNat (48+m)).toNat:Int) - 48)=m:=fun m hm=>by
  rw [u8n (by omega)]
  have:IntKind.u8.wrap (((48+m:Nat):Int) - 48)=(((48+m:Nat):Int) - 48) % 256:=rfl
  rw [this];omega
 rw [Lib.decDigits]
 split
 · rename_i h
   rw [Es,hw n h,if_neg (by omega),Es]
   congr 1;omega
 · rename_i h
   rw [Zt,ih (n / 10) (by omega) (by omega),BZ,Es,hw _ (by omega),if_neg (by omega),Es]
   congr 1;omega
theorem jR:∀(n:Nat),1≤n→∃b l,Lib.decDigits n=b::l∧(b==48)=false:=by
 intro n
 induction n using Nat.strongRecOn with
 |_ n ih=>
 intro hn
 rw [Lib.decDigits]
 split
 · rename_i h
   refine ⟨_,[],rfl,?_⟩
   cases hb:(UInt8.ofNat (48+n)==48) with
   |false=>rfl
   |true=>
    rw [beq_iff_eq] at hb
    have:=congrArg UInt8.toNat hb
    rw [u8n (by omega)] at this
    have h2:(48:UInt8).toNat=48:=rfl
    omega
 · rename_i h
   obtain ⟨b,l,e,hb⟩:=ih (n / 10) (by omega) (by omega)
   exact ⟨b,l++[_],by rw [e];rfl,hb⟩
theorem uN {n:Nat} (h:n≤1000000):Qd (Lib.decDigits n)=n:=by rw [Qd,pA n h];rfl
theorem j7 {n:Nat} (h:n≤1000000):Et (Lib.decDigits n) [(3,Lib.decDigits n)]:=fun rest hr=>by
 have ha:=gD n
 have hv:=pA n h
 have hh:∃b l,Lib.decDigits n=b::l∧(b==48&&decide ((b::l).length>1))=false:=by
  by_cases h0:n=0
  · subst h0;exact ⟨48,[],by rw [Lib.decDigits];rfl,rfl⟩
  · obtain ⟨b,l,e,hb⟩:=jR n (by omega)
    exact ⟨b,l,e,by rw [hb];rfl⟩
 obtain ⟨b,l,e,h48⟩:=hh
 rw [e] at ha hv ⊢
 have hd:=ha b (Aa ..)
 simp only [CH] at hd
 have hdn:=hd
 simp only [Ec,AM,decide_eq_true_eq] at hdn
 have ht:=bV ha (rV hr)
 refine aZ ?_ (fun c l' e'=>?_)
 · rw [A0] at ht ⊢
   have hlu:¬(MM b.toNat||KM b.toNat)=true:=by
    simp only [MM,KM,BR,AM,decide_eq_true_eq];omega
   rw [D0,if_neg hlu,if_pos hd,ht,h48,if_neg (by decide),hv];rfl
 · cases e'
   refine ⟨?_,?_⟩
   · simp only [T9,Dk]
     refine ⟨⟨⟨?_,?_⟩,?_⟩,?_⟩<;>(apply oP;omega)
   · cases hb:(b==35) with
     |false=>rfl
     |true=>
      rw [beq_iff_eq] at hb;subst hb
      exact absurd hdn.1 (by decide)
def T3 (u:Int):List KT:=if u < 0 then [(5,[45]),(3,Lib.decDigits u.natAbs)] else [(3,Lib.decDigits u.toNat)]
theorem dN {u:Int} (h1: -1000000≤u) (h2:u≤1000000):Et (Lib.itoa u) (T3 u):=by
 unfold Lib.itoa T3
 split
 · rename_i h
   intro rest hr
   refine OM.trans (s1:=[45]) (k1:=[(5,[45])]) (bQ 45 (.inl rfl) ?_) (j7 (by omega) rest hr)
   intro c l e
   have hall:∀x:UInt8,CH Ec x=true→(x==61)=false∧(x==62)=false:=fun x hx=>by
    simp only [CH,Ec,AM,decide_eq_true_eq] at hx
    constructor
    · cases hb:(x==61) with
      |false=>rfl
      |true=>rw [beq_iff_eq] at hb;subst hb;exact absurd hx.2 (by decide)
    · cases hb:(x==62) with
      |false=>rfl
      |true=>rw [beq_iff_eq] at hb;subst hb;exact absurd hx.2 (by decide)
   obtain ⟨b,l2,e2⟩:∃b l2,Lib.decDigits u.natAbs=b::l2:=by
    obtain ⟨b,l2,e2,_⟩:=jR u.natAbs (by omega)
    exact ⟨b,l2,e2⟩
   have hb:=hall b (gD u.natAbs b (by rw [e2];exact Aa ..))
   rw [e2] at e
   cases e
   exact hb
 · exact j7 (by omega)
theorem Vd {s:Str} (h:upperB s=true):∃b r,s=b::r∧KM b.toNat=true∧(∀x∈b::r,CH GC x=true)∧(b::r).length≤24:=by
 rw [upperB,GB] at h
 simp only [AM,beq_iff_eq] at h
 obtain ⟨h0,h1,h2⟩:=h
 rw [BG] at h0 h1 h2
 split at h0
 · cases h0
 · rename_i hle
   rw [if_neg hle] at h1 h2
   match s,h0,h1,h2 with
   |[],_,h1,_=>simp [DW] at h1
   |b::r,h0,h1,h2=>
    rw [show (b::r).length+1=(r.length+1)+1 from rfl] at h0 h1 h2
    rw [DW] at h0 h1 h2
    have hsm:∀(n:Nat) (rest:Str) (i:Nat),rest.length < (b::r).length→(DW n rest i []).2.2=0→(DW n rest i []).1.length=2→(match (DW n rest i []).1 with|[]=>false|a::_=>a.kind==2&&a.text==b::r)=true→False:=by
     intro n rest i hlt g0 g1 g2
     rcases KI n rest i [] g0 with h|⟨tl,h,hm⟩
     · rw [h] at g1;cases g1
     · rw [h,A3] at g1 g2
       cases tl with
       |nil=>cases g1
       |cons a tl=>
        simp only [AM,beq_iff_eq] at g2
        have:=hm a (Aa ..)
        rw [g2.2] at this
        omega
    split at h0
    · rename_i hb
      rw [if_pos hb] at h1 h2
      exact (hsm _ _ _ (by simp) h0 h1 h2).elim
    · rename_i hb
      rw [if_neg hb] at h1 h2
      split at h0
      · rename_i hc
        rw [if_pos hc] at h1 h2
        refine (hsm _ _ _ ?_ h0 h1 h2).elim
        rw [beq_iff_eq] at hc
        subst hc
        have:1≤cmt (35::r):=by simp [cmt]
        rw [Ai];simp only [AD];omega
      · rename_i hc
        rw [if_neg hc] at h1 h2
        cases hs:D0 (b::r) with
        |error e=>
         rw [hs] at h0
         rcases Ox hs with rfl|rfl<;>cases h0
        |ok x=>
         obtain ⟨k,t⟩:=x
         rw [hs] at h0 h1 h2
         rcases KI _ _ _ _ h0 with h|⟨tl,h,hm⟩
         · rw [h] at h1;cases h1
         · rw [h] at h2
           replace h2:(k==2&&t==b::r)=true:=h2
           rw [AM,beq_iff_eq,beq_iff_eq] at h2
           obtain ⟨rfl,rfl⟩:=h2
           rw [D0] at hs
           split at hs
           · split at hs
             · cases hs
             · rename_i hlen
               split at hs
               · rename_i hup
                 simp only [Gb,B2,true_and] at hs
                 rw [hs] at hlen
                 exact ⟨b,r,rfl,hup,takeWhile_eq hs,by simpa using hlen⟩
               · split at hs<;>cases hs
           · split at hs
             · split at hs
               · cases hs
               · split at hs<;>cases hs
             · split at hs<;>cases hs
theorem Ob {s:Str} (h:upperB s=true):Et s [(2,s)]:=by
 obtain ⟨b,r,rfl,h1,h2,h3⟩:=Vd h
 have:=Xm (b:=b) (r:=r) (by rw [h1,OJ]) h2 h3
 rw [h1,if_pos rfl] at this
 exact this
def shK (s:Str):List KT:=if s=[] then [(5,[95])] else [(1,s)]
theorem VS {s:Str} (h:GF s=true):Et (shown s) (shK s):=by
 unfold shown shK
 split
 · exact (JN [95] (by decide) (by decide)).s
 · rename_i hs
   simp only [GF,BR,beq_iff_eq] at h
   rcases h with h|h
   · exact absurd h hs
   · exact Ms h
def cmK (l:List (List KT)):List KT:=[(5,[44])].intercalate l
def Hn (k:List KT):List KT:=(5,[40])::(k++[(5,[41])])
def Ui (l:List (List KT)):List KT:=if l=[] then [] else Hn (cmK l)
def L4 (l:List (List KT)):List KT:=Hn (cmK l)
theorem jX {α:Type} (sep x:List α):sep.intercalate [x]=x:=by simp [List.intercalate]
theorem aP {α:Type} (sep x y:List α) (l:List (List α)):sep.intercalate (x::y::l)=x++(sep++sep.intercalate (y::l)):=by
 simp [List.intercalate,List.intersperse]
theorem Ub {α:Type} {sep:Str} {ks:List KT} (hs:GZ sep ks) (hst:Nf sep=true) (hne:sep≠[]) (f:α→Str) (g:α→List KT):∀l:List α,(∀x∈l,Et (f x) (g x))→Et (Lib.join (l.map f) sep) (ks.intercalate (l.map g))
 |[],_=>GZ.nil.s
 |[x],h=>by
  simp only [Lib.join,AF,AI,jX]
  exact h x (Aa ..)
 |x::y::l,h=>by
  have ih:=Ub hs hst hne f g (y::l) (fun z hz=>h z (Ah _ hz))
  simp only [Lib.join,AF,aP] at ih ⊢
  exact (h x (Aa ..)).ss (YY hst hne) (hs.ss ih)
theorem mO:GZ [44,32] [(5,[44])]:=(JN [44] (by decide) (by decide)).a IF
theorem qA:GZ [40] [(5,[40])]:=JN _ (by decide) (by decide)
theorem qE:GZ [41] [(5,[41])]:=JN _ (by decide) (by decide)
theorem Ud {s:Str} {k:List KT} (h:Et s k):GZ (JH s) (Hn k):=qA.a (h.a rfl (by decide) qE)
theorem j4 {α:Type} (f:α→Str) (g:α→List KT) (l:List α) (h:∀x∈l,Et (f x) (g x)):Et (cms (l.map f)) (cmK (l.map g)):=Ub mO rfl (by decide) f g l h
theorem S4 {α:Type} (f:α→Str) (g:α→List KT) (l:List α) (h:∀x∈l,Et (f x) (g x)):GZ (Ia (l.map f)) (Ui (l.map g)):=by
 unfold Ia Ui
 cases l with
 |nil=>exact GZ.nil
 |cons x l=>exact Ud (j4 f g (x::l) h)
theorem Uc {α:Type} (f:α→Str) (g:α→List KT) (l:List α) (h:∀x∈l,Et (f x) (g x)):GZ (I9 (l.map f)) (L4 (l.map g)):=Ud (j4 f g l h)
theorem NC (l:List Str) {r:Str} (hr:Nf r=true):Nf (Ia l++r)=true:=by
 unfold Ia;split
 · exact hr
 · rfl
theorem S3:GZ [32,45,62,32] [(5,[45,62])]:=IF.a ((JN [45,62] (by decide) (by decide)).a IF)
theorem aY:GZ [32,61,32] [(5,[61])]:=IF.a (fun rest=>(bQ 61 (.inr (.inr rfl)) (YZ (rest:=32::rest) rfl)).trans (IF rest))
theorem VQ {s:Str} (h:Ro s=true):GZ (32::(s++[32])) [(4,s)]:=IF.a ((Tn h).a rfl (by decide) IF)
theorem Pl {s:Str} (h:Ro s=true):GZ (s++[32]) [(4,s)]:=(Tn h).a rfl (by decide) IF
theorem j5 {s:Str} (h:Ro s=true):Et (32::s) [(4,s)]:=IF.ss (Tn h)
end Go.Ab
